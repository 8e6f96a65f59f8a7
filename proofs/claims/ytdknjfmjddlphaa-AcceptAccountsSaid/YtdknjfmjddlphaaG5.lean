/-
  Contracts of functions of the program, each with its walk in the logic of frames. Printed by a program of this session (wip/gen) from the translation.
-/
import Derived.Test.YtdknjfmjddlphaaDefs2
set_option linter.unusedSimpArgs false
set_option linter.unusedVariables false
namespace Go.Proofs.Ytdknjfmjddlphaa
open Go Go.Fk

def allowed_f (m : Int) (v : Vt) (acc : List Vt) : Bool := bif (((!(valid_f v)) || (decide (4 < v.kind))) || (!(has_f m v.signer))) || (!(has_f m v.slot)) then false else (bif decide (v.kind = 1) then decide (v.signer = v.slot) else (bif decide (v.kind = 2) then (acc.filter (counts_f m v)).any (fun xx => allowed1_f xx v) else (bif decide (v.kind = 3) then prevote_f m (quorum_f (size_f m)) (acc.filter (counts_f m v)) v else precommit_f m (quorum_f (size_f m)) (acc.filter (counts_f m v)) v)))
set_option maxRecDepth 100000 in
set_option maxHeartbeats 4000000 in
theorem Allowed_ok {m : Int} {v : Vt} {A_acc : Option Addr} {c_acc lo_acc hi_acc : Nat} {acc : List Vt}  {w : World} (hR_acc : Rd w lo_acc hi_acc A_acc acc) (hl : acc.length ≤ 1000000) : Gives Try.prog 20 #[(.int .i64 m), (Enc.val (v : Vt)), (.slice A_acc acc.length c_acc)] w fun u w' => u = (.bool (allowed_f m v acc)) ∧ Ext w w' := by
  have hE : Ext w w := Ext.refl w
  have hlen_acc := hR_acc.len
  refine gives_of_W Try.func20 rfl Try.ntmps20 rfl ?_
  refine W.seq ?_
  refine W.region (by rfl) ?_
  refine L.step rfl (op_box (cs := (Enc.cells (v : Vt))) rfl rfl rfl) ?_
  rintro _ w1 ⟨b1, rfl, hb1, hB1, hx1⟩
  have hE := hE.trans hx1
  have hR_acc := hR_acc.ext hx1
  refine L.val (v := (.bool false)) rfl (op_assign rfl rfl) ?_
  refine L.nil ?_
  refine thenF_nor ?_
  refine W.seq ?_
  refine W.seq ?_
  refine W.region (by rfl) ?_
  refine L.val rfl (op_load (v := (v : Vt)) rfl rfl ty28 hB1.cells) ?_
  refine L.call (v := (.bool (valid_f v))) rfl (OpS.call (op_call rfl (argsC rfl argsN) Try.func53 rfl rfl) Valid_ok) ?_
  intro w2 hx2
  have hE := hE.trans hx2
  have hR_acc := hR_acc.ext hx2
  have hB1 := hB1.ext hx2
  refine L.val rfl (op_not rfl rfl) ?_
  refine L.val rfl (op_move rfl rfl) ?_
  refine L.guardv (v := (.pointer (some ⟨b1, 0, none⟩))) (wanted_no rfl rfl rfl) (fun hg => (op_field rfl rfl fo28_0 rfl)) ?_
  refine L.guardv (v := (.int .i64 v.kind)) (wanted_no rfl rfl rfl) (fun hg => (op_load1 rfl ((show _ = vif _ (.pointer (some ⟨b1, 0, none⟩)) from rfl).trans (vif_t hg).symm) one3 (hB1.cells.one (n := 0) rfl))) ?_
  refine L.guardv (v := (.bool (decide (4 < v.kind)))) (wanted_no rfl rfl rfl) (fun hg => (op_gtr rfl ((show _ = vif _ (.int .i64 v.kind) from rfl).trans (vif_t hg).symm) rfl)) ?_
  refine L.val rfl (op_or rfl rfl rfl rfl) ?_
  refine L.val rfl (op_move rfl rfl) ?_
  refine L.guardv (v := (.int .i64 m)) (wanted_no rfl rfl rfl) (fun hg => (op_move rfl rfl)) ?_
  refine L.guardv (v := (.pointer (some ⟨b1, 4, none⟩))) (wanted_no rfl rfl rfl) (fun hg => (op_field rfl rfl fo28_4 rfl)) ?_
  refine L.guardv (v := (.int .i64 v.signer)) (wanted_no rfl rfl rfl) (fun hg => (op_load1 rfl ((show _ = vif _ (.pointer (some ⟨b1, 4, none⟩)) from rfl).trans (vif_t hg).symm) one3 (hB1.cells.one (n := 4) rfl))) ?_
  refine L.guardc (v := (.bool (has_f m v.signer))) (wanted_no rfl rfl rfl) (fun hg => (OpS.call (op_call rfl (argsC ((show _ = vif _ (.int .i64 m) from rfl).trans (vif_t hg).symm) (argsC ((show _ = vif _ (.int .i64 v.signer) from rfl).trans (vif_t hg).symm) argsN)) Try.func54 rfl rfl) Has_ok)) ?_
  intro w3 hx3
  have hE := hE.trans hx3
  have hR_acc := hR_acc.ext hx3
  have hB1 := hB1.ext hx3
  refine L.guardv (v := (.bool (!(has_f m v.signer)))) (wanted_no rfl rfl rfl) (fun hg => (op_not rfl ((show _ = vif _ (.bool (has_f m v.signer)) from rfl).trans (vif_t hg).symm))) ?_
  refine L.val rfl (op_or rfl rfl rfl rfl) ?_
  refine L.val rfl (op_move rfl rfl) ?_
  refine L.guardv (v := (.int .i64 m)) (wanted_no rfl rfl rfl) (fun hg => (op_move rfl rfl)) ?_
  refine L.guardv (v := (.pointer (some ⟨b1, 1, none⟩))) (wanted_no rfl rfl rfl) (fun hg => (op_field rfl rfl fo28_1 rfl)) ?_
  refine L.guardv (v := (.int .i64 v.slot)) (wanted_no rfl rfl rfl) (fun hg => (op_load1 rfl ((show _ = vif _ (.pointer (some ⟨b1, 1, none⟩)) from rfl).trans (vif_t hg).symm) one3 (hB1.cells.one (n := 1) rfl))) ?_
  refine L.guardc (v := (.bool (has_f m v.slot))) (wanted_no rfl rfl rfl) (fun hg => (OpS.call (op_call rfl (argsC ((show _ = vif _ (.int .i64 m) from rfl).trans (vif_t hg).symm) (argsC ((show _ = vif _ (.int .i64 v.slot) from rfl).trans (vif_t hg).symm) argsN)) Try.func54 rfl rfl) Has_ok)) ?_
  intro w4 hx4
  have hE := hE.trans hx4
  have hR_acc := hR_acc.ext hx4
  have hB1 := hB1.ext hx4
  refine L.guardv (v := (.bool (!(has_f m v.slot)))) (wanted_no rfl rfl rfl) (fun hg => (op_not rfl ((show _ = vif _ (.bool (has_f m v.slot)) from rfl).trans (vif_t hg).symm))) ?_
  refine L.val rfl (op_or rfl rfl rfl rfl) ?_
  refine L.nil ?_
  refine thenF_nor ?_
  refine W.cond (t := (((!(valid_f v)) || (decide (4 < v.kind))) || (!(has_f m v.signer))) || (!(has_f m v.slot))) rfl (fun hc5 => ?_) (fun hc5 => ?_)
  · have hp5 := hc5
    simp only [Bool.and_eq_true, Bool.or_eq_true, Bool.and_eq_false_iff, Bool.or_eq_false_iff, Bool.not_eq_true', Bool.not_eq_false', decide_eq_true_eq, decide_eq_false_iff_not] at hp5
    refine W.seq ?_
    refine W.region (by rfl) ?_
    refine L.val (v := (.bool false)) rfl (op_assign rfl rfl) ?_
    refine L.nil ?_
    refine thenF_nor ?_
    refine W.ret ?_
    refine thenF_ret ?_
    exact end_ret1 (v := (.bool false)) rfl rfl ⟨by simp only [allowed_f, hc5, cond_true], hE⟩
  · have hp5 := hc5
    simp only [Bool.and_eq_true, Bool.or_eq_true, Bool.and_eq_false_iff, Bool.or_eq_false_iff, Bool.not_eq_true', Bool.not_eq_false', decide_eq_true_eq, decide_eq_false_iff_not] at hp5
    have hall := hc5
    simp only [Bool.or_eq_false_iff, Bool.not_eq_false'] at hall
    have hvb := valid_bounds hall.1.1.1
    have hsz0 := size_nn m
    have hsz1 := size_le m
    refine W.skip ?_
    refine thenF_nor ?_
    refine W.seq ?_
    have S6_hR_acc := hR_acc
    have S6_hB1 := hB1
    have S6_hE := hE
    have hS6 : Ext w4 w4 := Ext.refl _
    refine W.region (by rfl) ?_
    refine L.val rfl (op_move rfl rfl) ?_
    refine L.val rfl (op_move rfl rfl) ?_
    refine L.call (v := (.int .i64 (size_f m))) rfl (OpS.call (op_call rfl (argsC rfl argsN) Try.func29 rfl rfl) Size_ok) ?_
    intro w7 hx7
    have hE := hE.trans hx7
    have hS6 := hS6.trans hx7
    have hR_acc := hR_acc.ext hx7
    have hB1 := hB1.ext hx7
    refine L.call (v := (.int .i64 (quorum_f (size_f m)))) rfl (OpS.call (op_call rfl (argsC rfl argsN) Try.func31 rfl rfl) (Quorum_ok (by first | omega | (simp only [List.length_drop, List.length_take, List.length_append, List.length_cons, List.length_nil] at *; omega)) (by first | omega | (simp only [List.length_drop, List.length_take, List.length_append, List.length_cons, List.length_nil] at *; omega)))) ?_
    intro w8 hx8
    have hE := hE.trans hx8
    have hS6 := hS6.trans hx8
    have hR_acc := hR_acc.ext hx8
    have hB1 := hB1.ext hx8
    refine L.val rfl (op_build (v := (.agg #[(.int .i64 m), (.int .i64 (quorum_f (size_f m))), (.slice none 0 0)])) (cs := [(.int .i64 m), (.int .i64 (quorum_f (size_f m))), (.slice none 0 0)]) rfl (partsC rfl (partsC rfl partsN)) (by kernel_rfl) rfl) ?_
    refine L.newvar (v := (.agg #[(.int .i64 m), (.int .i64 (quorum_f (size_f m))), (.slice none 0 0)])) (cs := [(.int .i64 m), (.int .i64 (quorum_f (size_f m))), (.slice none 0 0)]) rfl rfl rfl rfl rfl rfl (fun _ => rfl) rfl si68 zs68 (by intro u hu; simp at hu; rcases hu with rfl | rfl | rfl <;> rfl) ?_
    intro b9 w9 hb9 hB9 hx9
    have hbb9_hE := Nat.le_trans hE.size hb9
    have hbb9_hS6 := Nat.le_trans hS6.size hb9
    have hE := hE.trans hx9
    have hS6 := hS6.trans hx9
    have hR_acc := hR_acc.ext hx9
    have hB1 := hB1.ext hx9
    refine L.nil ?_
    refine thenF_nor ?_
    refine W.seq ?_
    refine W.seq ?_
    refine W.region (by rfl) ?_
    refine L.val rfl (op_move rfl rfl) ?_
    refine L.val rfl (op_len rfl rfl ln25) ?_
    refine L.val rfl (op_move rfl rfl) ?_
    refine L.nil ?_
    refine thenF_nor ?_
    refine W.block ?_
    refine W.loopg (γ := Nat) (fun (k : Nat) (f : Fr) (ww : World) => k ≤ acc.length ∧ f 0 = (.int .i64 m) ∧ f 4 = (.pointer (some ⟨b1, 0, none⟩)) ∧ f 6 = (.bool false) ∧ f 37 = (.slice A_acc acc.length c_acc) ∧ f 38 = (.int .i64 (acc.length : Int)) ∧ f 39 = (.int .i64 ((k : Nat) : Int)) ∧ f 7 = (.pointer (some ⟨b9, 0, none⟩)) ∧ (∃ vv, Box ww b9 68 [(.int .i64 m), (.int .i64 (quorum_f (size_f m))), vv] ∧ Fk.Own ww (b9 + 1) 28 vv ((acc.take k).filter (counts_f m v))) ∧ Ext w4 ww) (fun (k : Nat) => acc.length - k) 0 ⟨(by (try dsimp only); omega), rfl, rfl, rfl, rfl, rfl, rfl, rfl, ⟨_, hB9, Fk.Own.nil _ _ _⟩, hS6⟩ ?_
    rintro k f10 w10 ⟨hk, s10_0, s10_4, s10_6, s10_37, s10_38, s10_39, s10_7, hM10_7, hS6⟩
    have hR_acc := S6_hR_acc.ext hS6
    have hB1 := S6_hB1.ext hS6
    have hE := S6_hE.trans hS6
    obtain ⟨v10_7, hB10_7, hO10_7⟩ := hM10_7
    have hfl := List.length_filter_le (counts_f m v) (acc.take k)
    have htl := List.length_take_le' k acc
    refine W.seq ?_
    refine W.region (by rfl) ?_
    refine L.val rfl (op_lss rfl s10_39 s10_38) ?_
    refine L.nil ?_
    refine thenF_nor ?_
    refine W.seq ?_
    refine W.cond (t := decide (((k : Nat) : Int) < (acc.length : Int))) rfl (fun hc11 => ?_) (fun hc11 => ?_)
    · have hp11 := hc11
      simp only [Bool.and_eq_true, Bool.or_eq_true, Bool.and_eq_false_iff, Bool.or_eq_false_iff, Bool.not_eq_true', Bool.not_eq_false', decide_eq_true_eq, decide_eq_false_iff_not] at hp11
      refine W.skip ?_
      refine thenF_nor ?_
      refine W.seq ?_
      refine W.block ?_
      refine W.seq ?_
      refine W.region (by rfl) ?_
      refine L.val rfl (op_index (k := k) rfl s10_37 s10_39 sl25 (hR_acc.getA (get_bang (l := acc) (k := k) (by omega))).1 rfl (by omega) rfl) ?_
      refine L.val rfl (op_load (v := (acc[k]! : Vt)) rfl rfl ty28 (hR_acc.getA (get_bang (l := acc) (k := k) (by omega))).2) ?_
      refine L.newvar (v := (Enc.val (acc[k]! : Vt))) (cs := (Enc.cells (acc[k]! : Vt))) rfl rfl rfl rfl rfl rfl (fun _ => rfl) rfl si28 zs28 (Enc.one _) ?_
      intro b12 w12 hb12 hB12 hx12
      have hbb12_hE := Nat.le_trans hE.size hb12
      have hbb12_hS6 := Nat.le_trans hS6.size hb12
      have hE := hE.trans hx12
      have hS6 := hS6.trans hx12
      have hR_acc := hR_acc.ext hx12
      have hB1 := hB1.ext hx12
      have hB10_7 := hB10_7.ext hx12
      have hO10_7 := hO10_7.ext hx12
      refine L.nil ?_
      refine thenF_nor ?_
      refine W.seq ?_
      refine W.region (by rfl) ?_
      refine L.val rfl (op_load (v := (acc[k]! : Vt)) rfl rfl ty28 hB12.cells) ?_
      refine L.call (v := (.bool (valid_f (acc[k]!)))) rfl (OpS.call (op_call rfl (argsC rfl argsN) Try.func53 rfl rfl) Valid_ok) ?_
      intro w13 hx13
      have hE := hE.trans hx13
      have hS6 := hS6.trans hx13
      have hR_acc := hR_acc.ext hx13
      have hB1 := hB1.ext hx13
      have hB10_7 := hB10_7.ext hx13
      have hO10_7 := hO10_7.ext hx13
      have hB12 := hB12.ext hx13
      refine L.val rfl (op_move rfl rfl) ?_
      refine L.guardv (v := (.pointer (some ⟨b12, 6, none⟩))) (wanted_yes rfl rfl rfl) (fun hg => (op_field rfl rfl fo28_6 rfl)) ?_
      refine L.guardv (v := (Enc.val ((acc[k]!).parent))) (wanted_yes rfl rfl rfl) (fun hg => (op_load (v := ((acc[k]!).parent : Nm)) rfl ((show _ = vif _ (.pointer (some ⟨b12, 6, none⟩)) from rfl).trans (vif_t hg).symm) ty24 (sub_nm 6 hB12.cells rfl))) ?_
      refine L.guardv (v := (.pointer (some ⟨b1, 6, none⟩))) (wanted_yes rfl rfl rfl) (fun hg => (op_field rfl s10_4 fo28_6 rfl)) ?_
      refine L.guardv (v := (Enc.val (v.parent : Nm))) (wanted_yes rfl rfl rfl) (fun hg => (op_load (v := (v.parent : Nm)) rfl ((show _ = vif _ (.pointer (some ⟨b1, 6, none⟩)) from rfl).trans (vif_t hg).symm) ty24 (sub_nm 6 hB1.cells rfl))) ?_
      refine L.guardv (v := (.bool (decide ((acc[k]!).parent = v.parent)))) (wanted_yes rfl rfl rfl) (fun hg => (op_eqle (a := ((acc[k]!).parent : Nm)) (b := (v.parent : Nm)) rfl ((show _ = vif _ (Enc.val ((acc[k]!).parent)) from rfl).trans (vif_t hg).symm) ((show _ = vif _ (Enc.val (v.parent : Nm)) from rfl).trans (vif_t hg).symm) eq24 (fun _ => ⟨_, rfl⟩) Try.eqGuardType24)) ?_
      refine L.val rfl (op_and rfl rfl rfl rfl) ?_
      refine L.val rfl (op_move rfl rfl) ?_
      refine L.guardv (v := (.pointer (some ⟨b12, 1, none⟩))) (wanted_yes rfl rfl rfl) (fun hg => (op_field rfl rfl fo28_1 rfl)) ?_
      refine L.guardv (v := (.int .i64 ((acc[k]!).slot))) (wanted_yes rfl rfl rfl) (fun hg => (op_load1 rfl ((show _ = vif _ (.pointer (some ⟨b12, 1, none⟩)) from rfl).trans (vif_t hg).symm) one3 (hB12.cells.one (n := 1) rfl))) ?_
      refine L.guardv (v := (.pointer (some ⟨b1, 1, none⟩))) (wanted_yes rfl rfl rfl) (fun hg => (op_field rfl s10_4 fo28_1 rfl)) ?_
      refine L.guardv (v := (.int .i64 v.slot)) (wanted_yes rfl rfl rfl) (fun hg => (op_load1 rfl ((show _ = vif _ (.pointer (some ⟨b1, 1, none⟩)) from rfl).trans (vif_t hg).symm) one3 (hB1.cells.one (n := 1) rfl))) ?_
      refine L.guardv (v := (.bool (decide (((acc[k]!).slot) = v.slot)))) (wanted_yes rfl rfl rfl) (fun hg => (op_eql rfl ((show _ = vif _ (.int .i64 ((acc[k]!).slot)) from rfl).trans (vif_t hg).symm) ((show _ = vif _ (.int .i64 v.slot) from rfl).trans (vif_t hg).symm))) ?_
      refine L.val rfl (op_and rfl rfl rfl rfl) ?_
      refine L.val rfl (op_move rfl rfl) ?_
      refine L.guardv (v := (.pointer (some ⟨b12, 0, none⟩))) (wanted_yes rfl rfl rfl) (fun hg => (op_field rfl rfl fo28_0 rfl)) ?_
      refine L.guardv (v := (.int .i64 ((acc[k]!).kind))) (wanted_yes rfl rfl rfl) (fun hg => (op_load1 rfl ((show _ = vif _ (.pointer (some ⟨b12, 0, none⟩)) from rfl).trans (vif_t hg).symm) one3 (hB12.cells.one (n := 0) rfl))) ?_
      refine L.guardv (v := (.bool (decide (((acc[k]!).kind) ≤ 4)))) (wanted_yes rfl rfl rfl) (fun hg => (op_leq rfl ((show _ = vif _ (.int .i64 ((acc[k]!).kind)) from rfl).trans (vif_t hg).symm) rfl)) ?_
      refine L.val rfl (op_and rfl rfl rfl rfl) ?_
      refine L.val rfl (op_move rfl rfl) ?_
      refine L.guardv (v := (.int .i64 m)) (wanted_yes rfl rfl rfl) (fun hg => (op_move rfl s10_0)) ?_
      refine L.guardv (v := (.pointer (some ⟨b12, 4, none⟩))) (wanted_yes rfl rfl rfl) (fun hg => (op_field rfl rfl fo28_4 rfl)) ?_
      refine L.guardv (v := (.int .i64 ((acc[k]!).signer))) (wanted_yes rfl rfl rfl) (fun hg => (op_load1 rfl ((show _ = vif _ (.pointer (some ⟨b12, 4, none⟩)) from rfl).trans (vif_t hg).symm) one3 (hB12.cells.one (n := 4) rfl))) ?_
      refine L.guardc (v := (.bool (has_f m ((acc[k]!).signer)))) (wanted_yes rfl rfl rfl) (fun hg => (OpS.call (op_call rfl (argsC ((show _ = vif _ (.int .i64 m) from rfl).trans (vif_t hg).symm) (argsC ((show _ = vif _ (.int .i64 ((acc[k]!).signer)) from rfl).trans (vif_t hg).symm) argsN)) Try.func54 rfl rfl) Has_ok)) ?_
      intro w14 hx14
      have hE := hE.trans hx14
      have hS6 := hS6.trans hx14
      have hR_acc := hR_acc.ext hx14
      have hB1 := hB1.ext hx14
      have hB10_7 := hB10_7.ext hx14
      have hO10_7 := hO10_7.ext hx14
      have hB12 := hB12.ext hx14
      refine L.val rfl (op_and rfl rfl rfl rfl) ?_
      refine L.nil ?_
      refine thenF_nor ?_
      refine W.cond (t := ((((valid_f (acc[k]!)) && (decide ((acc[k]!).parent = v.parent))) && (decide (((acc[k]!).slot) = v.slot))) && (decide (((acc[k]!).kind) ≤ 4))) && (has_f m ((acc[k]!).signer))) rfl (fun hc15 => ?_) (fun hc15 => ?_)
      · have hp15 := hc15
        simp only [Bool.and_eq_true, Bool.or_eq_true, Bool.and_eq_false_iff, Bool.or_eq_false_iff, Bool.not_eq_true', Bool.not_eq_false', decide_eq_true_eq, decide_eq_false_iff_not] at hp15
        have hstep := filter_yes (l := acc) (p := counts_f m v) (k := k) (by omega) hc15
        refine W.region (by rfl) ?_
        refine L.val rfl (op_field rfl s10_7 fo68_2 rfl) ?_
        refine L.val rfl (op_load1 rfl rfl one25 (hB10_7.cells.one (n := 2) rfl)) ?_
        refine L.val rfl (op_load (v := (acc[k]! : Vt)) rfl rfl ty28 hB12.cells) ?_
        refine L.step rfl (op_slice1 (a := (acc[k]! : Vt)) rfl rfl sl25 zs28 (by decide)) ?_
        rintro _ w16 ⟨b16, rfl, hb16, hB16, hx16⟩
        have hE := hE.trans hx16
        have hS6 := hS6.trans hx16
        have hR_acc := hR_acc.ext hx16
        have hB1 := hB1.ext hx16
        have hB10_7 := hB10_7.ext hx16
        have hO10_7 := hO10_7.ext hx16
        have hB12 := hB12.ext hx16
        refine L.step rfl (op_append (a := (acc[k]! : Vt)) (ad := ⟨b16, 0, none⟩) rfl rfl rfl sl25 zs28 bt28 hO10_7 hB16.cells (by omega) (by decide) (Nat.succ_le_of_lt hB10_7.lt)) ?_
        rintro v17 w17 ⟨hO17, hg17⟩
        have hS6 := hS6.own (hO10_7.lower (by omega)) hg17
        have hB10_7 := hB10_7.far hg17 (hO10_7.ne' (Nat.lt_succ_self _))
        have hR_acc := S6_hR_acc.ext hS6
        have hB1 := S6_hB1.ext hS6
        have hE := S6_hE.trans hS6
        refine L.val rfl (op_field rfl s10_7 fo68_2 rfl) ?_
        refine L.step rfl (op_put (v := v17) rfl rfl rfl si25 hB10_7 (Nat.le_of_ble_eq_true rfl) hO17.cells hO17.onec) ?_
        rintro _ w18 ⟨hB18, hg18⟩
        have hO17 := (hO17).kept hg18 (hO17.ne (Nat.lt_succ_self _))
        have hS6 := hS6.grown hg18 (by intro k hk; cases hk; omega)
        have hR_acc := S6_hR_acc.ext hS6
        have hB1 := S6_hB1.ext hS6
        have hE := S6_hE.trans hS6
        have hB10_7 := hB18
        refine L.nil ?_
        refine blockF_nor ?_
        refine thenF_nor ?_
        refine W.region (by rfl) ?_
        refine L.val rfl (op_add (c := ((k + 1 : Nat) : Int)) rfl s10_39 rfl (by omega) (by omega)) ?_
        refine L.val rfl (op_move rfl rfl) ?_
        refine L.nil ?_
        refine thenF_nor ?_
        exact ⟨k + 1, ⟨(by (try dsimp only); omega), s10_0, s10_4, s10_6, s10_37, s10_38, rfl, s10_7, (by rw [← hstep]; exact ⟨_, hB10_7, hO17⟩), hS6⟩, (by (try dsimp only); omega)⟩
      · have hp15 := hc15
        simp only [Bool.and_eq_true, Bool.or_eq_true, Bool.and_eq_false_iff, Bool.or_eq_false_iff, Bool.not_eq_true', Bool.not_eq_false', decide_eq_true_eq, decide_eq_false_iff_not] at hp15
        have hstep := filter_no (l := acc) (p := counts_f m v) (k := k) (by omega) hc15
        refine W.skip ?_
        refine blockF_nor ?_
        refine thenF_nor ?_
        refine W.region (by rfl) ?_
        refine L.val rfl (op_add (c := ((k + 1 : Nat) : Int)) rfl s10_39 rfl (by omega) (by omega)) ?_
        refine L.val rfl (op_move rfl rfl) ?_
        refine L.nil ?_
        refine thenF_nor ?_
        exact ⟨k + 1, ⟨(by (try dsimp only); omega), s10_0, s10_4, s10_6, s10_37, s10_38, rfl, s10_7, (by rw [← hstep]; exact ⟨_, hB10_7, hO10_7⟩), hS6⟩, (by (try dsimp only); omega)⟩
    · have hp11 := hc11
      simp only [Bool.and_eq_true, Bool.or_eq_true, Bool.and_eq_false_iff, Bool.or_eq_false_iff, Bool.not_eq_true', Bool.not_eq_false', decide_eq_true_eq, decide_eq_false_iff_not] at hp11
      have hkl : k = acc.length := by omega
      rw [hkl, List.take_length] at hO10_7
      refine W.exit ?_
      refine thenF_exit ?_
      refine thenF_exit ?_
      refine blockF_hit ?_
      refine thenF_nor ?_
      refine W.seq ?_
      refine W.seq ?_
      refine W.region (by rfl) ?_
      refine L.val rfl (op_field rfl s10_4 fo28_0 rfl) ?_
      refine L.val rfl (op_load1 rfl rfl one3 (hB1.cells.one (n := 0) rfl)) ?_
      refine L.nil ?_
      refine thenF_nor ?_
      refine W.block ?_
      refine W.seq ?_
      refine W.region (by rfl) ?_
      refine L.val rfl (op_eql rfl rfl rfl) ?_
      refine L.val rfl (op_assign rfl rfl) ?_
      refine L.nil ?_
      refine thenF_nor ?_
      refine W.cond (t := decide (v.kind = 1)) rfl (fun hc19 => ?_) (fun hc19 => ?_)
      · have hp19 := hc19
        simp only [Bool.and_eq_true, Bool.or_eq_true, Bool.and_eq_false_iff, Bool.or_eq_false_iff, Bool.not_eq_true', Bool.not_eq_false', decide_eq_true_eq, decide_eq_false_iff_not] at hp19
        refine W.seq ?_
        refine W.region (by rfl) ?_
        refine L.val rfl (op_field rfl s10_4 fo28_4 rfl) ?_
        refine L.val rfl (op_load1 rfl rfl one3 (hB1.cells.one (n := 4) rfl)) ?_
        refine L.val rfl (op_field rfl s10_4 fo28_1 rfl) ?_
        refine L.val rfl (op_load1 rfl rfl one3 (hB1.cells.one (n := 1) rfl)) ?_
        refine L.val rfl (op_eql rfl rfl rfl) ?_
        refine L.val rfl (op_assign rfl rfl) ?_
        refine L.nil ?_
        refine thenF_nor ?_
        refine W.ret ?_
        refine blockF_ret ?_
        refine thenF_ret ?_
        exact end_ret1 (v := (.bool (decide (v.signer = v.slot)))) rfl rfl ⟨by simp only [allowed_f, hc5, hc11, hc19, cond_true, cond_false], hE⟩
      · have hp19 := hc19
        simp only [Bool.and_eq_true, Bool.or_eq_true, Bool.and_eq_false_iff, Bool.or_eq_false_iff, Bool.not_eq_true', Bool.not_eq_false', decide_eq_true_eq, decide_eq_false_iff_not] at hp19
        refine W.seq ?_
        refine W.region (by rfl) ?_
        refine L.val rfl (op_eql rfl rfl rfl) ?_
        refine L.val rfl (op_assign rfl rfl) ?_
        refine L.nil ?_
        refine thenF_nor ?_
        refine W.cond (t := decide (v.kind = 2)) rfl (fun hc20 => ?_) (fun hc20 => ?_)
        · have hp20 := hc20
          simp only [Bool.and_eq_true, Bool.or_eq_true, Bool.and_eq_false_iff, Bool.or_eq_false_iff, Bool.not_eq_true', Bool.not_eq_false', decide_eq_true_eq, decide_eq_false_iff_not] at hp20
          refine W.seq ?_
          obtain ⟨A21, c21, hv21, hR21, hcap21⟩ := (hO10_7).form
          have hlen21 := hR21.len
          have hBs21 := hB10_7
          rw [hv21] at hBs21
          refine W.region (by rfl) ?_
          refine L.val rfl (op_loadcs (cs := [(.int .i64 m), (.int .i64 (quorum_f (size_f m))), (.slice A21 (acc.filter (counts_f m v)).length c21)]) rfl s10_7 ag68 si68 hBs21.cells) ?_
          refine L.val rfl (op_func rfl (argsC s10_4 argsN)) ?_
          refine L.call (v := (.bool ((acc.filter (counts_f m v)).any (fun xx => allowed1_f xx v)))) rfl (OpS.call (op_call rfl (argsC rfl (argsC rfl argsN)) Try.func55 rfl rfl) (has_ok hR21 (⟨_, [(.pointer (some ⟨b1, 0, none⟩))], _, rfl, Try.func56, rfl, rfl, fun xx ww hxx => (allowed1_ok (hB1.cells.ext hxx))⟩ : Fits _ _ _ (fun xx => allowed1_f xx v)))) ?_
          intro w22 hx22
          have hE := hE.trans hx22
          have hS6 := hS6.trans hx22
          have hR_acc := hR_acc.ext hx22
          have hB1 := hB1.ext hx22
          have hB10_7 := hB10_7.ext hx22
          have hO10_7 := hO10_7.ext hx22
          have hR21 := hR21.ext hx22
          have hBs21 := hBs21.ext hx22
          refine L.val rfl (op_assign rfl rfl) ?_
          refine L.nil ?_
          refine thenF_nor ?_
          refine W.ret ?_
          refine blockF_ret ?_
          refine thenF_ret ?_
          exact end_ret1 (v := (.bool ((acc.filter (counts_f m v)).any (fun xx => allowed1_f xx v)))) rfl rfl ⟨by simp only [allowed_f, hc5, hc11, hc19, hc20, cond_true, cond_false], hE⟩
        · have hp20 := hc20
          simp only [Bool.and_eq_true, Bool.or_eq_true, Bool.and_eq_false_iff, Bool.or_eq_false_iff, Bool.not_eq_true', Bool.not_eq_false', decide_eq_true_eq, decide_eq_false_iff_not] at hp20
          refine W.seq ?_
          refine W.region (by rfl) ?_
          refine L.val rfl (op_eql rfl rfl rfl) ?_
          refine L.val rfl (op_assign rfl rfl) ?_
          refine L.nil ?_
          refine thenF_nor ?_
          refine W.cond (t := decide (v.kind = 3)) rfl (fun hc23 => ?_) (fun hc23 => ?_)
          · have hp23 := hc23
            simp only [Bool.and_eq_true, Bool.or_eq_true, Bool.and_eq_false_iff, Bool.or_eq_false_iff, Bool.not_eq_true', Bool.not_eq_false', decide_eq_true_eq, decide_eq_false_iff_not] at hp23
            refine W.seq ?_
            obtain ⟨A24, c24, hv24, hR24, hcap24⟩ := (hO10_7).form
            have hlen24 := hR24.len
            have hBs24 := hB10_7
            rw [hv24] at hBs24
            refine W.region (by rfl) ?_
            refine L.val rfl (op_loadcs (cs := [(.int .i64 m), (.int .i64 (quorum_f (size_f m))), (.slice A24 (acc.filter (counts_f m v)).length c24)]) rfl s10_7 ag68 si68 hBs24.cells) ?_
            refine L.val rfl (op_load (v := (v : Vt)) rfl s10_4 ty28 hB1.cells) ?_
            refine L.call (v := (.bool (prevote_f m (quorum_f (size_f m)) (acc.filter (counts_f m v)) v))) rfl (OpS.call (op_call rfl (argsC rfl (argsC rfl argsN)) Try.func58 rfl rfl) (prevote_ok hR24 (by first | omega | (simp only [List.length_drop, List.length_take, List.length_append, List.length_cons, List.length_nil] at *; omega)) (by first | omega | (simp only [List.length_drop, List.length_take, List.length_append, List.length_cons, List.length_nil] at *; omega)))) ?_
            intro w25 hx25
            have hE := hE.trans hx25
            have hS6 := hS6.trans hx25
            have hR_acc := hR_acc.ext hx25
            have hB1 := hB1.ext hx25
            have hB10_7 := hB10_7.ext hx25
            have hO10_7 := hO10_7.ext hx25
            have hR24 := hR24.ext hx25
            have hBs24 := hBs24.ext hx25
            refine L.val rfl (op_assign rfl rfl) ?_
            refine L.nil ?_
            refine thenF_nor ?_
            refine W.ret ?_
            refine blockF_ret ?_
            refine thenF_ret ?_
            exact end_ret1 (v := (.bool (prevote_f m (quorum_f (size_f m)) (acc.filter (counts_f m v)) v))) rfl rfl ⟨by simp only [allowed_f, hc5, hc11, hc19, hc20, hc23, cond_true, cond_false], hE⟩
          · have hp23 := hc23
            simp only [Bool.and_eq_true, Bool.or_eq_true, Bool.and_eq_false_iff, Bool.or_eq_false_iff, Bool.not_eq_true', Bool.not_eq_false', decide_eq_true_eq, decide_eq_false_iff_not] at hp23
            refine W.skip ?_
            refine blockF_nor ?_
            refine thenF_nor ?_
            refine W.seq ?_
            obtain ⟨A26, c26, hv26, hR26, hcap26⟩ := (hO10_7).form
            have hlen26 := hR26.len
            have hBs26 := hB10_7
            rw [hv26] at hBs26
            refine W.region (by rfl) ?_
            refine L.val rfl (op_loadcs (cs := [(.int .i64 m), (.int .i64 (quorum_f (size_f m))), (.slice A26 (acc.filter (counts_f m v)).length c26)]) rfl s10_7 ag68 si68 hBs26.cells) ?_
            refine L.val rfl (op_load (v := (v : Vt)) rfl s10_4 ty28 hB1.cells) ?_
            refine L.call (v := (.bool (precommit_f m (quorum_f (size_f m)) (acc.filter (counts_f m v)) v))) rfl (OpS.call (op_call rfl (argsC rfl (argsC rfl argsN)) Try.func59 rfl rfl) (precommit_ok hR26)) ?_
            intro w27 hx27
            have hE := hE.trans hx27
            have hS6 := hS6.trans hx27
            have hR_acc := hR_acc.ext hx27
            have hB1 := hB1.ext hx27
            have hB10_7 := hB10_7.ext hx27
            have hO10_7 := hO10_7.ext hx27
            have hR26 := hR26.ext hx27
            have hBs26 := hBs26.ext hx27
            refine L.val rfl (op_assign rfl rfl) ?_
            refine L.nil ?_
            refine thenF_nor ?_
            refine W.ret ?_
            exact end_ret1 (v := (.bool (precommit_f m (quorum_f (size_f m)) (acc.filter (counts_f m v)) v))) rfl rfl ⟨by simp only [allowed_f, hc5, hc11, hc19, hc20, hc23, cond_false], hE⟩

end Go.Proofs.Ytdknjfmjddlphaa
