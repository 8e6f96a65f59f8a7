/-
  Contracts of functions of the program, each with its walk in the logic of frames. Printed by a program of this session (wip/gen) from the translation.
-/
import Derived.Test.YtdknjfmjddlphaaGC2
set_option linter.unusedSimpArgs false
set_option linter.unusedVariables false
namespace Go.Proofs.Ytdknjfmjddlphaa
open Go Go.Fk

set_option maxRecDepth 100000 in
set_option maxHeartbeats 4000000 in
theorem mixed_ok {q_s : Addr} {m_s : Int} {A_s : Option Addr} {c_s lo_s hi_s bw bd : Nat} {all : List Vt} {lw ld : List (Vt × Int)} {v : Vt}  {w : World} (hq_s : Cells w q_s [.int .i64 m_s, .slice A_s all.length c_s, .map (some bw), .map (some bd)]) (hR_s : Rd w lo_s hi_s A_s all) (hM_w : Mp w bw lw) (hM_d : Mp w bd ld) (hne_bd_bw : bd ≠ bw) : Gives Try.prog 101 #[(.pointer (some q_s)), (Enc.val (v : Vt))] w fun u w' => Mp w' bw (wants ld lw (mixed_n all v) : List (Vt × Int)) ∧ w.grownBy w' (some bw) := by
  have hne_bw_bd := Ne.symm hne_bd_bw
  have hT0 : w.grownBy w (some bw) := grown_refl _ _
  have S0_hq_s := hq_s
  have S0_hR_s := hR_s
  have S0_hM_w := hM_w
  have S0_hM_d := hM_d
  have hlen_s := hR_s.len
  refine gives_of_W Try.func101 rfl Try.ntmps101 rfl ?_
  refine W.seq ?_
  refine W.region (by rfl) ?_
  refine L.step rfl (op_box (cs := (Enc.cells (v : Vt))) rfl rfl rfl) ?_
  rintro _ w1 ⟨b1, rfl, hb1, hB1, hx1⟩
  have hT0 := grown_ext hT0 hx1
  have hq_s := hq_s.ext hx1
  have hR_s := hR_s.ext hx1
  have hM_w := hM_w.ext hx1
  have hM_d := hM_d.ext hx1
  refine L.nil ?_
  refine thenF_nor ?_
  refine W.seq ?_
  refine W.region (by rfl) ?_
  have A2_hq_s := hq_s
  have A2_hR_s := hR_s
  have A2_hM_w := hM_w
  have A2_hM_d := hM_d
  have A2_hB1 := hB1
  have A2_hT0 := hT0
  refine L.step rfl (op_alloc (z := Enc.val (default : Vt)) (cs := Enc.cells (default : Vt)) rfl (by kernel_rfl) rfl) ?_
  rintro _ w2 ⟨b2, rfl, hb2, hB2, hx2⟩
  have hbb2_hT0 := Nat.le_trans hT0.size hb2
  have hT0 := grown_ext hT0 hx2
  have hq_s := hq_s.ext hx2
  have hR_s := hR_s.ext hx2
  have hM_w := hM_w.ext hx2
  have hM_d := hM_d.ext hx2
  have hB1 := hB1.ext hx2
  refine L.nil ?_
  refine thenF_nor ?_
  refine W.seq ?_
  refine W.region (by rfl) ?_
  refine L.val (v := (.bool false)) rfl (op_assign rfl rfl) ?_
  refine L.nil ?_
  refine thenF_nor ?_
  refine W.seq ?_
  refine W.seq ?_
  refine W.region (by rfl) ?_
  refine L.val rfl (op_field rfl rfl fo28_5 rfl) ?_
  refine L.val rfl (op_load1 rfl rfl one22 (hB1.cells.one (n := 5) rfl)) ?_
  have hlo := hB2.lt
  have hne12 : b1 ≠ b2 := by have := A2_hB1.lt; omega
  refine L.step rfl (OpS.call (op_call rfl (argsC rfl argsN) Try.func44 rfl rfl) IDs_own) ?_
  rintro _ w3 ⟨⟨A3, c3, rfl, hcap3, hR3⟩, hx3⟩
  have hT0 := grown_ext hT0 hx3
  have hq_s := hq_s.ext hx3
  have hR_s := hR_s.ext hx3
  have hM_w := hM_w.ext hx3
  have hM_d := hM_d.ext hx3
  have hB1 := hB1.ext hx3
  have hB2 := hB2.ext hx3
  have hlen3 := hR3.len
  refine L.val rfl (op_len rfl rfl ln57) ?_
  refine L.val rfl (op_move rfl rfl) ?_
  refine L.nil ?_
  refine thenF_nor ?_
  refine W.block ?_
  refine W.loopg (γ := Nat × Vt) (fun (g : Nat × Vt) (f : Fr) (ww : World) => g.1 ≤ (ids_f v.support).length ∧ ((g.1 = 0 ∧ g.2 = vt0) ∨ (0 < g.1 ∧ g.2 = (mixFirst all v (ids_f v.support)))) ∧ f 0 = (.pointer (some q_s)) ∧ f 3 = (.pointer (some ⟨b1, 0, none⟩)) ∧ f 4 = (.pointer (some ⟨b2, 0, none⟩)) ∧ f 12 = (.slice A3 (ids_f v.support).length c3) ∧ f 13 = (.int .i64 ((ids_f v.support).length : Int)) ∧ f 14 = (.int .i64 ((g.1 : Nat) : Int)) ∧ f 5 = (.bool (((ids_f v.support).take g.1).any (mixDiff all v (mixFirst all v (ids_f v.support))))) ∧ Mp ww bw (wants ld lw (((ids_f v.support).take g.1).filterMap (mix_g all v)) : List (Vt × Int)) ∧ Rd ww w2.heap.size w3.heap.size A3 (ids_f v.support) ∧ Box ww b1 28 (Enc.cells (v : Vt)) ∧ Box ww b2 28 (Enc.cells (g.2 : Vt)) ∧ w.grownBy ww (some bw)) (fun (g : Nat × Vt) => (ids_f v.support).length - g.1) (0, (default : Vt)) ⟨(by (try dsimp only); omega), (Or.inl ⟨rfl, rfl⟩), rfl, rfl, rfl, rfl, rfl, rfl, rfl, hM_w, hR3, hB1, hB2, hT0⟩ ?_
  rintro ⟨k, y⟩ f4 w4 ⟨hk, hy, s4_0, s4_3, s4_4, s4_12, s4_13, s4_14, s4_5, hM4_bw, hR3, hB1, hB2, hT0⟩
  dsimp only at hk hy s4_0 s4_3 s4_4 s4_12 s4_13 s4_14 s4_5 hM4_bw hR3 hB1 hB2 hT0
  have hq_s := S0_hq_s.farM S0_hM_w.nc hT0
  have hR_s := S0_hR_s.farM S0_hM_w.nc hT0
  have hM_d := S0_hM_d.farM hne_bd_bw hT0
  refine W.seq ?_
  refine W.region (by rfl) ?_
  refine L.val rfl (op_lss rfl s4_14 s4_13) ?_
  refine L.nil ?_
  refine thenF_nor ?_
  refine W.seq ?_
  refine W.cond (t := decide (((k : Nat) : Int) < ((ids_f v.support).length : Int))) rfl (fun hc5 => ?_) (fun hc5 => ?_)
  · have hp5 := hc5
    simp only [Bool.and_eq_true, Bool.or_eq_true, Bool.and_eq_false_iff, Bool.or_eq_false_iff, Bool.not_eq_true', Bool.not_eq_false', decide_eq_true_eq, decide_eq_false_iff_not] at hp5
    refine W.skip ?_
    refine thenF_nor ?_
    refine W.seq ?_
    refine W.block ?_
    refine W.seq ?_
    refine W.region (by rfl) ?_
    refine L.val rfl (op_move rfl s4_14) ?_
    refine L.val rfl (op_index (k := k) rfl s4_12 s4_14 sl57 (hR3.getA (get_bang (l := (ids_f v.support)) (k := k) (by omega))).1 rfl (by omega) rfl) ?_
    refine L.val rfl (op_load1 rfl rfl one3 ((hR3.getA (get_bang (l := (ids_f v.support)) (k := k) (by omega))).2.one (n := 0) rfl)) ?_
    have hlt6_2 := hB2.lt
    have A6_hR3 := hR3
    have A6_hB1 := hB1
    have A6_hB2 := hB2
    have A6_hq_s := hq_s
    have A6_hR_s := hR_s
    have A6_hM_d := hM_d
    have A6_hM4_bw := hM4_bw
    have A6_hT0 := hT0
    refine L.step rfl (op_alloc (z := Enc.val (0 : Int)) (cs := Enc.cells (0 : Int)) rfl (by kernel_rfl) rfl) ?_
    rintro _ w6 ⟨b6, rfl, hb6, hB6, hx6⟩
    have hbb6_hT0 := Nat.le_trans hT0.size hb6
    have hT0 := grown_ext hT0 hx6
    have hR3 := hR3.ext hx6
    have hB1 := hB1.ext hx6
    have hB2 := hB2.ext hx6
    have hq_s := hq_s.ext hx6
    have hR_s := hR_s.ext hx6
    have hM_d := hM_d.ext hx6
    have hM4_bw := hM4_bw.ext hx6
    refine L.val rfl (op_assign rfl rfl) ?_
    refine L.step rfl (op_fillbox (v := (.int .i64 ((ids_f v.support)[k]!))) (vs := (Enc.cells ((ids_f v.support)[k]! : Int))) rfl rfl rfl rfl si3 hB6 (by simp [Enc.len]) (Enc.one _)) ?_
    rintro _ w7 ⟨hB6, hg7⟩
    have hxx7 : Ext w4 w7 := hx6.grown hg7 (by intro k hk; cases hk; exact hb6)
    have hT0 := grown_ext A6_hT0 hxx7
    have hR3 := A6_hR3.ext hxx7
    have hB1 := A6_hB1.ext hxx7
    have hB2 := A6_hB2.ext hxx7
    have hq_s := A6_hq_s.ext hxx7
    have hR_s := A6_hR_s.ext hxx7
    have hM_d := A6_hM_d.ext hxx7
    have hM4_bw := A6_hM4_bw.ext hxx7
    refine L.nil ?_
    refine thenF_nor ?_
    refine W.seq ?_
    refine W.region (by rfl) ?_
    refine L.val rfl (op_move rfl s4_0) ?_
    refine L.val rfl (op_func rfl (argsC rfl (argsC s4_3 argsN))) ?_
    refine L.step rfl (OpS.call (op_call rfl (argsC rfl (argsC rfl argsN)) Try.func70 rfl rfl) (least_ok hq_s hR_s hM4_bw hM_d hne_bd_bw (⟨_, [(.pointer (some ⟨b6, 0, none⟩)), (.pointer (some ⟨b1, 0, none⟩))], _, rfl, Try.func127, rfl, rfl, fun xx ww hxx => (mix1_ok (hB6.cells.ext hxx) (hB1.cells.ext hxx))⟩ : Fits _ _ _ (fun xx => mix1_f xx ((ids_f v.support)[k]!) v)))) ?_
    rintro _ w8 ⟨rfl, hM8, hg8⟩
    have hnc8 := hM4_bw.nc
    have hT0 := grown_trans hT0 hg8
    have hR3 := hR3.farM hnc8 hg8
    have hB1 := hB1.farM hnc8 hg8
    have hB2 := hB2.farM hnc8 hg8
    have hq_s := hq_s.farM hnc8 hg8
    have hR_s := hR_s.farM hnc8 hg8
    have hM_d := hM_d.farM hne_bd_bw hg8
    have hB6 := hB6.farM hnc8 hg8
    refine L.val rfl (op_move rfl rfl) ?_
    refine L.val rfl (op_extract rfl rfl rfl) ?_
    refine L.val rfl (op_extract rfl rfl rfl) ?_
    have hlt9_2 := hB2.lt
    refine L.newvar (v := (Enc.val ((all.find? (fun xx => mix1_f xx ((ids_f v.support)[k]!) v)).getD vt0))) (cs := (Enc.cells ((all.find? (fun xx => mix1_f xx ((ids_f v.support)[k]!) v)).getD vt0))) rfl rfl rfl rfl rfl rfl (fun _ => rfl) rfl si28 zs28 (Enc.one _) ?_
    intro b9 w9 hb9 hB9 hx9
    have hbb9_hT0 := Nat.le_trans hT0.size hb9
    have hT0 := grown_ext hT0 hx9
    have hR3 := hR3.ext hx9
    have hB1 := hB1.ext hx9
    have hB2 := hB2.ext hx9
    have hq_s := hq_s.ext hx9
    have hR_s := hR_s.ext hx9
    have hM_d := hM_d.ext hx9
    have hB6 := hB6.ext hx9
    have hM8 := hM8.ext hx9
    refine L.val rfl (op_assign rfl rfl) ?_
    refine L.nil ?_
    refine thenF_nor ?_
    refine W.seq ?_
    refine W.seq ?_
    refine W.region (by rfl) ?_
    refine L.val rfl (op_move rfl rfl) ?_
    refine L.val rfl (op_eql rfl rfl rfl) ?_
    refine L.nil ?_
    refine thenF_nor ?_
    refine W.cond (t := decide (((k : Nat) : Int) = 0)) rfl (fun hc10 => ?_) (fun hc10 => ?_)
    · have hp10 := hc10
      simp only [Bool.and_eq_true, Bool.or_eq_true, Bool.and_eq_false_iff, Bool.or_eq_false_iff, Bool.not_eq_true', Bool.not_eq_false', decide_eq_true_eq, decide_eq_false_iff_not] at hp10
      have hk0 : k = 0 := by have h0 := hc10; simp only [decide_eq_true_eq] at h0; omega
      have hyy := mix_first (all := all) (v := v) hk0 (by omega)
      refine W.region (by rfl) ?_
      refine L.val rfl (op_load (v := ((all.find? (fun xx => mix1_f xx ((ids_f v.support)[k]!) v)).getD vt0)) rfl rfl ty28 hB9.cells) ?_
      refine L.step rfl (op_fillbox (v := (Enc.val ((all.find? (fun xx => mix1_f xx ((ids_f v.support)[k]!) v)).getD vt0))) (vs := Enc.cells (((all.find? (fun xx => mix1_f xx ((ids_f v.support)[k]!) v)).getD vt0) : Vt)) rfl s4_4 rfl rfl si28 hB2 (by simp [Enc.len]) (Enc.one _)) ?_
      rintro _ w11 ⟨hB11, hg11⟩
      have hT0 := grown_new hT0 hg11 (by intro k hk; cases hk; exact hbb2_hT0)
      have hR3 := rd_farB hR3 hlo hg11
      have hB1 := hB1.far hg11 (by simpa using hne12)
      have hq_s := S0_hq_s.farM S0_hM_w.nc hT0
      have hR_s := S0_hR_s.farM S0_hM_w.nc hT0
      have hM_d := hM_d.farB hB2 hg11
      have hB6 := hB6.far hg11 (by simp; omega)
      have hM8 := hM8.farB hB2 hg11
      have hB9 := hB9.far hg11 (by simp; omega)
      have hB2 := hB11
      refine L.nil ?_
      refine thenF_nor ?_
      refine W.region (by rfl) ?_
      refine L.val rfl (op_move rfl s4_5) ?_
      refine L.val rfl (op_move rfl rfl) ?_
      refine L.guardv (v := (.pointer (some ⟨b9, 3, none⟩))) (wanted_no rfl rfl rfl) (fun hg => (op_field rfl rfl fo28_3 rfl)) ?_
      refine L.guardv (v := (.int .i64 (((all.find? (fun xx => mix1_f xx ((ids_f v.support)[k]!) v)).getD vt0).choice))) (wanted_no rfl rfl rfl) (fun hg => (op_load1 rfl ((show _ = vif _ (.pointer (some ⟨b9, 3, none⟩)) from rfl).trans (vif_t hg).symm) one3 (hB9.cells.one (n := 3) rfl))) ?_
      refine L.guardv (v := (.pointer (some ⟨b2, 3, none⟩))) (wanted_no rfl rfl rfl) (fun hg => (op_field rfl s4_4 fo28_3 rfl)) ?_
      refine L.guardv (v := (.int .i64 ((((all.find? (fun xx => mix1_f xx ((ids_f v.support)[k]!) v)).getD vt0) : Vt).choice))) (wanted_no rfl rfl rfl) (fun hg => (op_load1 rfl ((show _ = vif _ (.pointer (some ⟨b2, 3, none⟩)) from rfl).trans (vif_t hg).symm) one3 (hB2.cells.one (n := 3) rfl))) ?_
      refine L.guardv (v := (.bool (!decide ((((all.find? (fun xx => mix1_f xx ((ids_f v.support)[k]!) v)).getD vt0).choice) = ((((all.find? (fun xx => mix1_f xx ((ids_f v.support)[k]!) v)).getD vt0) : Vt).choice))))) (wanted_no rfl rfl rfl) (fun hg => (op_neq rfl ((show _ = vif _ (.int .i64 (((all.find? (fun xx => mix1_f xx ((ids_f v.support)[k]!) v)).getD vt0).choice)) from rfl).trans (vif_t hg).symm) ((show _ = vif _ (.int .i64 ((((all.find? (fun xx => mix1_f xx ((ids_f v.support)[k]!) v)).getD vt0) : Vt).choice)) from rfl).trans (vif_t hg).symm))) ?_
      refine L.val rfl (op_or rfl rfl rfl rfl) ?_
      refine L.val rfl (op_move rfl rfl) ?_
      refine L.guardv (v := (.pointer (some ⟨b9, 14, none⟩))) (wanted_no rfl rfl rfl) (fun hg => (op_field rfl rfl fo28_7 rfl)) ?_
      refine L.guardv (v := (Enc.val (((all.find? (fun xx => mix1_f xx ((ids_f v.support)[k]!) v)).getD vt0).value))) (wanted_no rfl rfl rfl) (fun hg => (op_load (v := (((all.find? (fun xx => mix1_f xx ((ids_f v.support)[k]!) v)).getD vt0).value : Nm)) rfl ((show _ = vif _ (.pointer (some ⟨b9, 14, none⟩)) from rfl).trans (vif_t hg).symm) ty24 (sub_nm 14 hB9.cells rfl))) ?_
      refine L.guardv (v := (.pointer (some ⟨b2, 14, none⟩))) (wanted_no rfl rfl rfl) (fun hg => (op_field rfl s4_4 fo28_7 rfl)) ?_
      refine L.guardv (v := (Enc.val ((((all.find? (fun xx => mix1_f xx ((ids_f v.support)[k]!) v)).getD vt0) : Vt).value))) (wanted_no rfl rfl rfl) (fun hg => (op_load (v := ((((all.find? (fun xx => mix1_f xx ((ids_f v.support)[k]!) v)).getD vt0) : Vt).value : Nm)) rfl ((show _ = vif _ (.pointer (some ⟨b2, 14, none⟩)) from rfl).trans (vif_t hg).symm) ty24 (sub_nm 14 hB2.cells rfl))) ?_
      refine L.guardv (v := (.bool (!decide (((all.find? (fun xx => mix1_f xx ((ids_f v.support)[k]!) v)).getD vt0).value = (((all.find? (fun xx => mix1_f xx ((ids_f v.support)[k]!) v)).getD vt0) : Vt).value)))) (wanted_no rfl rfl rfl) (fun hg => (op_neqe (a := (((all.find? (fun xx => mix1_f xx ((ids_f v.support)[k]!) v)).getD vt0).value : Nm)) (b := ((((all.find? (fun xx => mix1_f xx ((ids_f v.support)[k]!) v)).getD vt0) : Vt).value : Nm)) rfl ((show _ = vif _ (Enc.val (((all.find? (fun xx => mix1_f xx ((ids_f v.support)[k]!) v)).getD vt0).value)) from rfl).trans (vif_t hg).symm) ((show _ = vif _ (Enc.val ((((all.find? (fun xx => mix1_f xx ((ids_f v.support)[k]!) v)).getD vt0) : Vt).value)) from rfl).trans (vif_t hg).symm) eq24 (fun _ => ⟨_, rfl⟩) Try.eqGuardType24)) ?_
      refine L.val rfl (op_or rfl rfl rfl rfl) ?_
      refine L.val rfl (op_assign rfl rfl) ?_
      refine L.nil ?_
      refine blockF_nor ?_
      refine thenF_nor ?_
      refine W.region (by rfl) ?_
      refine L.val rfl (op_add (c := ((k + 1 : Nat) : Int)) rfl s4_14 rfl (by omega) (by omega)) ?_
      refine L.val rfl (op_move rfl rfl) ?_
      refine L.nil ?_
      refine thenF_nor ?_
      exact ⟨(k + 1, (((all.find? (fun xx => mix1_f xx ((ids_f v.support)[k]!) v)).getD vt0) : Vt)), ⟨(by (try dsimp only); omega), (Or.inr ⟨by omega, hyy⟩), s4_0, s4_3, s4_4, s4_12, s4_13, rfl, (rfl.trans (congrArg Value.bool (mix_go (by omega) hyy))), (by rw [wants_go (g := mix_g all v) (by omega)]; exact hM8), hR3, hB1, hB2, hT0⟩, (by (try dsimp only); omega)⟩
    · have hp10 := hc10
      simp only [Bool.and_eq_true, Bool.or_eq_true, Bool.and_eq_false_iff, Bool.or_eq_false_iff, Bool.not_eq_true', Bool.not_eq_false', decide_eq_true_eq, decide_eq_false_iff_not] at hp10
      have hk0 : 0 < k := by have h0 := hc10; simp only [decide_eq_false_iff_not] at h0; omega
      have hyy : y = (mixFirst all v (ids_f v.support)) := by rcases hy with h | h; (exact absurd h.1 (by omega)); exact h.2
      refine W.skip ?_
      refine thenF_nor ?_
      refine W.region (by rfl) ?_
      refine L.val rfl (op_move rfl s4_5) ?_
      refine L.val rfl (op_move rfl rfl) ?_
      refine L.guardv (v := (.pointer (some ⟨b9, 3, none⟩))) (wanted_no rfl rfl rfl) (fun hg => (op_field rfl rfl fo28_3 rfl)) ?_
      refine L.guardv (v := (.int .i64 (((all.find? (fun xx => mix1_f xx ((ids_f v.support)[k]!) v)).getD vt0).choice))) (wanted_no rfl rfl rfl) (fun hg => (op_load1 rfl ((show _ = vif _ (.pointer (some ⟨b9, 3, none⟩)) from rfl).trans (vif_t hg).symm) one3 (hB9.cells.one (n := 3) rfl))) ?_
      refine L.guardv (v := (.pointer (some ⟨b2, 3, none⟩))) (wanted_no rfl rfl rfl) (fun hg => (op_field rfl s4_4 fo28_3 rfl)) ?_
      refine L.guardv (v := (.int .i64 ((y : Vt).choice))) (wanted_no rfl rfl rfl) (fun hg => (op_load1 rfl ((show _ = vif _ (.pointer (some ⟨b2, 3, none⟩)) from rfl).trans (vif_t hg).symm) one3 (hB2.cells.one (n := 3) rfl))) ?_
      refine L.guardv (v := (.bool (!decide ((((all.find? (fun xx => mix1_f xx ((ids_f v.support)[k]!) v)).getD vt0).choice) = ((y : Vt).choice))))) (wanted_no rfl rfl rfl) (fun hg => (op_neq rfl ((show _ = vif _ (.int .i64 (((all.find? (fun xx => mix1_f xx ((ids_f v.support)[k]!) v)).getD vt0).choice)) from rfl).trans (vif_t hg).symm) ((show _ = vif _ (.int .i64 ((y : Vt).choice)) from rfl).trans (vif_t hg).symm))) ?_
      refine L.val rfl (op_or rfl rfl rfl rfl) ?_
      refine L.val rfl (op_move rfl rfl) ?_
      refine L.guardv (v := (.pointer (some ⟨b9, 14, none⟩))) (wanted_no rfl rfl rfl) (fun hg => (op_field rfl rfl fo28_7 rfl)) ?_
      refine L.guardv (v := (Enc.val (((all.find? (fun xx => mix1_f xx ((ids_f v.support)[k]!) v)).getD vt0).value))) (wanted_no rfl rfl rfl) (fun hg => (op_load (v := (((all.find? (fun xx => mix1_f xx ((ids_f v.support)[k]!) v)).getD vt0).value : Nm)) rfl ((show _ = vif _ (.pointer (some ⟨b9, 14, none⟩)) from rfl).trans (vif_t hg).symm) ty24 (sub_nm 14 hB9.cells rfl))) ?_
      refine L.guardv (v := (.pointer (some ⟨b2, 14, none⟩))) (wanted_no rfl rfl rfl) (fun hg => (op_field rfl s4_4 fo28_7 rfl)) ?_
      refine L.guardv (v := (Enc.val ((y : Vt).value))) (wanted_no rfl rfl rfl) (fun hg => (op_load (v := ((y : Vt).value : Nm)) rfl ((show _ = vif _ (.pointer (some ⟨b2, 14, none⟩)) from rfl).trans (vif_t hg).symm) ty24 (sub_nm 14 hB2.cells rfl))) ?_
      refine L.guardv (v := (.bool (!decide (((all.find? (fun xx => mix1_f xx ((ids_f v.support)[k]!) v)).getD vt0).value = (y : Vt).value)))) (wanted_no rfl rfl rfl) (fun hg => (op_neqe (a := (((all.find? (fun xx => mix1_f xx ((ids_f v.support)[k]!) v)).getD vt0).value : Nm)) (b := ((y : Vt).value : Nm)) rfl ((show _ = vif _ (Enc.val (((all.find? (fun xx => mix1_f xx ((ids_f v.support)[k]!) v)).getD vt0).value)) from rfl).trans (vif_t hg).symm) ((show _ = vif _ (Enc.val ((y : Vt).value)) from rfl).trans (vif_t hg).symm) eq24 (fun _ => ⟨_, rfl⟩) Try.eqGuardType24)) ?_
      refine L.val rfl (op_or rfl rfl rfl rfl) ?_
      refine L.val rfl (op_assign rfl rfl) ?_
      refine L.nil ?_
      refine blockF_nor ?_
      refine thenF_nor ?_
      refine W.region (by rfl) ?_
      refine L.val rfl (op_add (c := ((k + 1 : Nat) : Int)) rfl s4_14 rfl (by omega) (by omega)) ?_
      refine L.val rfl (op_move rfl rfl) ?_
      refine L.nil ?_
      refine thenF_nor ?_
      exact ⟨(k + 1, (y : Vt)), ⟨(by (try dsimp only); omega), (Or.inr ⟨by omega, hyy⟩), s4_0, s4_3, s4_4, s4_12, s4_13, rfl, (rfl.trans (congrArg Value.bool (mix_go (by omega) hyy))), (by rw [wants_go (g := mix_g all v) (by omega)]; exact hM8), hR3, hB1, hB2, hT0⟩, (by (try dsimp only); omega)⟩
  · have hp5 := hc5
    simp only [Bool.and_eq_true, Bool.or_eq_true, Bool.and_eq_false_iff, Bool.or_eq_false_iff, Bool.not_eq_true', Bool.not_eq_false', decide_eq_true_eq, decide_eq_false_iff_not] at hp5
    have hkl : k = (ids_f v.support).length := by omega
    rw [hkl, List.take_length] at hM4_bw
    have hyy := mix_last (all := all) (v := v) hkl hy
    refine W.exit ?_
    refine thenF_exit ?_
    refine thenF_exit ?_
    refine blockF_hit ?_
    refine thenF_nor ?_
    refine W.seq ?_
    refine W.region (by rfl) ?_
    refine L.val rfl (op_move rfl s4_5) ?_
    refine L.val rfl (op_not rfl rfl) ?_
    refine L.nil ?_
    refine thenF_nor ?_
    refine W.cond (t := !(((ids_f v.support).take k).any (mixDiff all v (mixFirst all v (ids_f v.support))))) rfl (fun hc12 => ?_) (fun hc12 => ?_)
    · have hp12 := hc12
      simp only [Bool.and_eq_true, Bool.or_eq_true, Bool.and_eq_false_iff, Bool.or_eq_false_iff, Bool.not_eq_true', Bool.not_eq_false', decide_eq_true_eq, decide_eq_false_iff_not] at hp12
      refine W.region (by rfl) ?_
      refine L.val rfl (op_move rfl s4_0) ?_
      refine L.val rfl (op_func rfl (argsC s4_3 (argsC s4_4 argsN))) ?_
      refine L.step rfl (OpS.call (op_call rfl (argsC rfl (argsC rfl argsN)) Try.func70 rfl rfl) (least_ok hq_s hR_s hM4_bw hM_d hne_bd_bw (⟨_, [(.pointer (some ⟨b1, 0, none⟩)), (.pointer (some ⟨b2, 0, none⟩))], _, rfl, Try.func128, rfl, rfl, fun xx ww hxx => (mix2_ok (hB1.cells.ext hxx) (hB2.cells.ext hxx))⟩ : Fits _ _ _ (fun xx => mix2_f xx v (y : Vt))))) ?_
      rintro _ w13 ⟨rfl, hM13, hg13⟩
      have hnc13 := hM4_bw.nc
      have hT0 := grown_trans hT0 hg13
      have hR3 := hR3.farM hnc13 hg13
      have hB1 := hB1.farM hnc13 hg13
      have hB2 := hB2.farM hnc13 hg13
      have hq_s := hq_s.farM hnc13 hg13
      have hR_s := hR_s.farM hnc13 hg13
      have hM_d := hM_d.farM hne_bd_bw hg13
      refine L.nil ?_
      exact end_nor0 rfl ⟨(by rw [mix_finTrue hc12 hkl hyy]; exact hM13), hT0⟩
    · have hp12 := hc12
      simp only [Bool.and_eq_true, Bool.or_eq_true, Bool.and_eq_false_iff, Bool.or_eq_false_iff, Bool.not_eq_true', Bool.not_eq_false', decide_eq_true_eq, decide_eq_false_iff_not] at hp12
      refine W.skip ?_
      exact end_nor0 rfl ⟨(by rw [mix_finFalse hc12 hkl]; exact hM4_bw), hT0⟩

set_option maxRecDepth 100000 in
theorem expand_ok {q_s : Addr} {m_s : Int} {A_s : Option Addr} {c_s lo_s hi_s bw bd : Nat} {all : List Vt} {lw ld : List (Vt × Int)} {v : Vt}  {w : World} (hq_s : Cells w q_s [.int .i64 m_s, .slice A_s all.length c_s, .map (some bw), .map (some bd)]) (hR_s : Rd w lo_s hi_s A_s all) (hM_w : Mp w bw lw) (hM_d : Mp w bd ld) (hne_bd_bw : bd ≠ bw) (hal : all.length ≤ 1000000) (h0 : 0 ≤ v.round) (h1 : v.round ≤ 100) : Gives Try.prog 72 #[(.pointer (some q_s)), (Enc.val (v : Vt))] w fun u w' => Mp w' bw (wants ld lw (expand_n m_s all v) : List (Vt × Int)) ∧ w.grownBy w' (some bw) := by
  have hne_bw_bd := Ne.symm hne_bd_bw
  have hT0 : w.grownBy w (some bw) := grown_refl _ _
  have S0_hq_s := hq_s
  have S0_hR_s := hR_s
  have S0_hM_w := hM_w
  have S0_hM_d := hM_d
  have hlen_s := hR_s.len
  refine gives_of_W Try.func72 rfl Try.ntmps72 rfl ?_
  refine W.seq ?_
  refine W.region (by rfl) ?_
  refine L.step rfl (op_box (cs := (Enc.cells (v : Vt))) rfl rfl rfl) ?_
  rintro _ w1 ⟨b1, rfl, hb1, hB1, hx1⟩
  have hT0 := grown_ext hT0 hx1
  have hq_s := hq_s.ext hx1
  have hR_s := hR_s.ext hx1
  have hM_w := hM_w.ext hx1
  have hM_d := hM_d.ext hx1
  refine L.nil ?_
  refine thenF_nor ?_
  refine W.block ?_
  refine W.seq ?_
  refine W.region (by rfl) ?_
  refine L.val rfl (op_field rfl rfl fo28_0 rfl) ?_
  refine L.val rfl (op_load1 rfl rfl one3 (hB1.cells.one (n := 0) rfl)) ?_
  refine L.val rfl (op_eql rfl rfl rfl) ?_
  refine L.val rfl (op_assign rfl rfl) ?_
  refine L.nil ?_
  refine thenF_nor ?_
  refine W.cond (t := decide (v.kind = 2)) rfl (fun hc2 => ?_) (fun hc2 => ?_)
  · have hp2 := hc2
    simp only [Bool.and_eq_true, Bool.or_eq_true, Bool.and_eq_false_iff, Bool.or_eq_false_iff, Bool.not_eq_true', Bool.not_eq_false', decide_eq_true_eq, decide_eq_false_iff_not] at hp2
    refine W.region (by rfl) ?_
    refine L.val rfl (op_move rfl rfl) ?_
    refine L.val rfl (op_func rfl (argsC rfl argsN)) ?_
    refine L.step rfl (OpS.call (op_call rfl (argsC rfl (argsC rfl argsN)) Try.func70 rfl rfl) (least_ok hq_s hR_s hM_w hM_d hne_bd_bw (⟨_, [(.pointer (some ⟨b1, 0, none⟩))], _, rfl, Try.func97, rfl, rfl, fun xx ww hxx => (exp1_ok (hB1.cells.ext hxx))⟩ : Fits _ _ _ (fun xx => exp1_f xx v)))) ?_
    rintro _ w3 ⟨rfl, hM3, hg3⟩
    have hnc3 := hM_w.nc
    have hT0 := grown_trans hT0 hg3
    have hq_s := hq_s.farM hnc3 hg3
    have hR_s := hR_s.farM hnc3 hg3
    have hM_d := hM_d.farM hne_bd_bw hg3
    have hB1 := hB1.farM hnc3 hg3
    refine L.nil ?_
    refine blockF_nor ?_
    exact end_nor0 rfl ⟨(by unfold expand_n; rw [hc2, cond_true]; rw [wants_one]; exact hM3), hT0⟩
  · have hp2 := hc2
    simp only [Bool.and_eq_true, Bool.or_eq_true, Bool.and_eq_false_iff, Bool.or_eq_false_iff, Bool.not_eq_true', Bool.not_eq_false', decide_eq_true_eq, decide_eq_false_iff_not] at hp2
    refine W.seq ?_
    refine W.region (by rfl) ?_
    refine L.val rfl (op_field rfl rfl fo28_0 rfl) ?_
    refine L.val rfl (op_load1 rfl rfl one3 (hB1.cells.one (n := 0) rfl)) ?_
    refine L.val rfl (op_eql rfl rfl rfl) ?_
    refine L.val rfl (op_move rfl rfl) ?_
    refine L.guardv (v := (.pointer (some ⟨b1, 2, none⟩))) (wanted_yes rfl rfl rfl) (fun hg => (op_field rfl rfl fo28_2 rfl)) ?_
    refine L.guardv (v := (.int .i64 v.round)) (wanted_yes rfl rfl rfl) (fun hg => (op_load1 rfl ((show _ = vif _ (.pointer (some ⟨b1, 2, none⟩)) from rfl).trans (vif_t hg).symm) one3 (hB1.cells.one (n := 2) rfl))) ?_
    refine L.guardv (v := (.bool (decide (v.round = 1)))) (wanted_yes rfl rfl rfl) (fun hg => (op_eql rfl ((show _ = vif _ (.int .i64 v.round) from rfl).trans (vif_t hg).symm) rfl)) ?_
    refine L.val rfl (op_and rfl rfl rfl rfl) ?_
    refine L.val rfl (op_assign rfl rfl) ?_
    refine L.nil ?_
    refine thenF_nor ?_
    refine W.cond (t := (decide (v.kind = 3)) && (decide (v.round = 1))) rfl (fun hc4 => ?_) (fun hc4 => ?_)
    · have hp4 := hc4
      simp only [Bool.and_eq_true, Bool.or_eq_true, Bool.and_eq_false_iff, Bool.or_eq_false_iff, Bool.not_eq_true', Bool.not_eq_false', decide_eq_true_eq, decide_eq_false_iff_not] at hp4
      refine W.region (by rfl) ?_
      refine L.val rfl (op_move rfl rfl) ?_
      refine L.val rfl (op_load (v := (v : Vt)) rfl rfl ty28 hB1.cells) ?_
      refine L.step rfl (OpS.call (op_call rfl (argsC rfl (argsC rfl (argsC rfl (argsC rfl argsN)))) Try.func99 rfl rfl) (supporters_ok hq_s hR_s hM_w hM_d hne_bd_bw)) ?_
      rintro _ w5 ⟨hM5, hg5⟩
      have hnc5 := hM_w.nc
      have hT0 := grown_trans hT0 hg5
      have hq_s := hq_s.farM hnc5 hg5
      have hR_s := hR_s.farM hnc5 hg5
      have hM_d := hM_d.farM hne_bd_bw hg5
      have hB1 := hB1.farM hnc5 hg5
      refine L.nil ?_
      refine blockF_nor ?_
      exact end_nor0 rfl ⟨(by unfold expand_n; rw [hc2, cond_false, hc4, cond_true]; exact hM5), hT0⟩
    · have hp4 := hc4
      simp only [Bool.and_eq_true, Bool.or_eq_true, Bool.and_eq_false_iff, Bool.or_eq_false_iff, Bool.not_eq_true', Bool.not_eq_false', decide_eq_true_eq, decide_eq_false_iff_not] at hp4
      refine W.seq ?_
      refine W.region (by rfl) ?_
      refine L.val rfl (op_field rfl rfl fo28_0 rfl) ?_
      refine L.val rfl (op_load1 rfl rfl one3 (hB1.cells.one (n := 0) rfl)) ?_
      refine L.val rfl (op_eql rfl rfl rfl) ?_
      refine L.val rfl (op_assign rfl rfl) ?_
      refine L.nil ?_
      refine thenF_nor ?_
      refine W.cond (t := decide (v.kind = 3)) rfl (fun hc6 => ?_) (fun hc6 => ?_)
      · have hp6 := hc6
        simp only [Bool.and_eq_true, Bool.or_eq_true, Bool.and_eq_false_iff, Bool.or_eq_false_iff, Bool.not_eq_true', Bool.not_eq_false', decide_eq_true_eq, decide_eq_false_iff_not] at hp6
        refine W.region (by rfl) ?_
        refine L.val rfl (op_move rfl rfl) ?_
        refine L.val rfl (op_load (v := (v : Vt)) rfl rfl ty28 hB1.cells) ?_
        refine L.step rfl (OpS.call (op_call rfl (argsC rfl (argsC rfl argsN)) Try.func100 rfl rfl) (later_ok hq_s hR_s hM_w hM_d hne_bd_bw (by first | omega | (simp only [List.length_drop, List.length_take, List.length_append, List.length_cons, List.length_nil] at *; omega)) (by first | omega | (simp only [List.length_drop, List.length_take, List.length_append, List.length_cons, List.length_nil] at *; omega)) (by first | omega | (simp only [List.length_drop, List.length_take, List.length_append, List.length_cons, List.length_nil] at *; omega)))) ?_
        rintro _ w7 ⟨hM7, hg7⟩
        have hnc7 := hM_w.nc
        have hT0 := grown_trans hT0 hg7
        have hq_s := hq_s.farM hnc7 hg7
        have hR_s := hR_s.farM hnc7 hg7
        have hM_d := hM_d.farM hne_bd_bw hg7
        have hB1 := hB1.farM hnc7 hg7
        refine L.nil ?_
        refine blockF_nor ?_
        exact end_nor0 rfl ⟨(by unfold expand_n; rw [hc2, cond_false, hc4, cond_false, hc6, cond_true]; exact hM7), hT0⟩
      · have hp6 := hc6
        simp only [Bool.and_eq_true, Bool.or_eq_true, Bool.and_eq_false_iff, Bool.or_eq_false_iff, Bool.not_eq_true', Bool.not_eq_false', decide_eq_true_eq, decide_eq_false_iff_not] at hp6
        refine W.seq ?_
        refine W.region (by rfl) ?_
        refine L.val rfl (op_field rfl rfl fo28_0 rfl) ?_
        refine L.val rfl (op_load1 rfl rfl one3 (hB1.cells.one (n := 0) rfl)) ?_
        refine L.val rfl (op_eql rfl rfl rfl) ?_
        refine L.val rfl (op_move rfl rfl) ?_
        refine L.guardv (v := (.pointer (some ⟨b1, 3, none⟩))) (wanted_yes rfl rfl rfl) (fun hg => (op_field rfl rfl fo28_3 rfl)) ?_
        refine L.guardv (v := (.int .i64 v.choice)) (wanted_yes rfl rfl rfl) (fun hg => (op_load1 rfl ((show _ = vif _ (.pointer (some ⟨b1, 3, none⟩)) from rfl).trans (vif_t hg).symm) one3 (hB1.cells.one (n := 3) rfl))) ?_
        refine L.guardv (v := (.bool (decide (v.choice = 2)))) (wanted_yes rfl rfl rfl) (fun hg => (op_eql rfl ((show _ = vif _ (.int .i64 v.choice) from rfl).trans (vif_t hg).symm) rfl)) ?_
        refine L.val rfl (op_and rfl rfl rfl rfl) ?_
        refine L.val rfl (op_assign rfl rfl) ?_
        refine L.nil ?_
        refine thenF_nor ?_
        refine W.cond (t := (decide (v.kind = 4)) && (decide (v.choice = 2))) rfl (fun hc8 => ?_) (fun hc8 => ?_)
        · have hp8 := hc8
          simp only [Bool.and_eq_true, Bool.or_eq_true, Bool.and_eq_false_iff, Bool.or_eq_false_iff, Bool.not_eq_true', Bool.not_eq_false', decide_eq_true_eq, decide_eq_false_iff_not] at hp8
          refine W.region (by rfl) ?_
          refine L.val rfl (op_move rfl rfl) ?_
          refine L.val rfl (op_load (v := (v : Vt)) rfl rfl ty28 hB1.cells) ?_
          refine L.step rfl (OpS.call (op_call rfl (argsC rfl (argsC rfl argsN)) Try.func101 rfl rfl) (mixed_ok hq_s hR_s hM_w hM_d hne_bd_bw)) ?_
          rintro _ w9 ⟨hM9, hg9⟩
          have hnc9 := hM_w.nc
          have hT0 := grown_trans hT0 hg9
          have hq_s := hq_s.farM hnc9 hg9
          have hR_s := hR_s.farM hnc9 hg9
          have hM_d := hM_d.farM hne_bd_bw hg9
          have hB1 := hB1.farM hnc9 hg9
          refine L.nil ?_
          refine blockF_nor ?_
          exact end_nor0 rfl ⟨(by unfold expand_n; rw [hc2, cond_false, hc4, cond_false, hc6, cond_false, hc8, cond_true]; exact hM9), hT0⟩
        · have hp8 := hc8
          simp only [Bool.and_eq_true, Bool.or_eq_true, Bool.and_eq_false_iff, Bool.or_eq_false_iff, Bool.not_eq_true', Bool.not_eq_false', decide_eq_true_eq, decide_eq_false_iff_not] at hp8
          refine W.seq ?_
          refine W.region (by rfl) ?_
          refine L.val rfl (op_field rfl rfl fo28_0 rfl) ?_
          refine L.val rfl (op_load1 rfl rfl one3 (hB1.cells.one (n := 0) rfl)) ?_
          refine L.val rfl (op_eql rfl rfl rfl) ?_
          refine L.val rfl (op_assign rfl rfl) ?_
          refine L.nil ?_
          refine thenF_nor ?_
          refine W.cond (t := decide (v.kind = 4)) rfl (fun hc10 => ?_) (fun hc10 => ?_)
          · have hp10 := hc10
            simp only [Bool.and_eq_true, Bool.or_eq_true, Bool.and_eq_false_iff, Bool.or_eq_false_iff, Bool.not_eq_true', Bool.not_eq_false', decide_eq_true_eq, decide_eq_false_iff_not] at hp10
            refine W.region (by rfl) ?_
            refine L.val rfl (op_move rfl rfl) ?_
            refine L.val rfl (op_load (v := (v : Vt)) rfl rfl ty28 hB1.cells) ?_
            refine L.val rfl (op_field rfl rfl fo28_2 rfl) ?_
            refine L.val rfl (op_load1 rfl rfl one3 (hB1.cells.one (n := 2) rfl)) ?_
            refine L.step rfl (OpS.call (op_call rfl (argsC rfl (argsC rfl (argsC rfl (argsC rfl argsN)))) Try.func99 rfl rfl) (supporters_ok hq_s hR_s hM_w hM_d hne_bd_bw)) ?_
            rintro _ w11 ⟨hM11, hg11⟩
            have hnc11 := hM_w.nc
            have hT0 := grown_trans hT0 hg11
            have hq_s := hq_s.farM hnc11 hg11
            have hR_s := hR_s.farM hnc11 hg11
            have hM_d := hM_d.farM hne_bd_bw hg11
            have hB1 := hB1.farM hnc11 hg11
            refine L.nil ?_
            refine blockF_nor ?_
            exact end_nor0 rfl ⟨(by unfold expand_n; rw [hc2, cond_false, hc4, cond_false, hc6, cond_false, hc8, cond_false, hc10, cond_true]; exact hM11), hT0⟩
          · have hp10 := hc10
            simp only [Bool.and_eq_true, Bool.or_eq_true, Bool.and_eq_false_iff, Bool.or_eq_false_iff, Bool.not_eq_true', Bool.not_eq_false', decide_eq_true_eq, decide_eq_false_iff_not] at hp10
            refine W.skip ?_
            refine blockF_nor ?_
            exact end_nor0 rfl ⟨(by unfold expand_n; rw [hc2, cond_false, hc4, cond_false, hc6, cond_false, hc8, cond_false, hc10, cond_false]; exact hM_w), hT0⟩

end Go.Proofs.Ytdknjfmjddlphaa
