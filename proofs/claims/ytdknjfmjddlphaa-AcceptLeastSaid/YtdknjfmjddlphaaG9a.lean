/-
  Contracts of functions of the program, each with its walk in the logic of frames. Printed by a program of this session (wip/gen) from the translation.
-/
import Derived.Test.YtdknjfmjddlphaaLeastPure
import Derived.Test.YtdknjfmjddlphaaG8
set_option linter.unusedSimpArgs false
set_option linter.unusedVariables false
namespace Go.Proofs.Ytdknjfmjddlphaa
open Go Go.Fk

set_option maxRecDepth 100000 in
set_option maxHeartbeats 8000000 in
theorem AcceptLeast_ok {m : Int} {parent : Nm} {A_l : Option Addr} {c_l lo_l hi_l : Nat} {l : List Vt}  {w : World} (hR_l : Rd w lo_l hi_l A_l l) (hcap_l : l.length ≤ c_l) : Gives Try.prog 4 #[(.int .i64 m), (Enc.val (parent : Nm)), (.slice A_l l.length c_l)] w fun u w' => u = (.bool true) ∧ Ext w w' := by
  have hE : Ext w w := Ext.refl w
  have hlen_l := hR_l.len
  refine gives_of_W Try.func4 rfl Try.ntmps4 rfl ?_
  have hal := acc_len m parent (l.take 120)
  have htl : (l.take 120).length ≤ 120 := List.length_take_le _ _
  refine W.seq ?_
  refine W.region (by rfl) ?_
  refine L.step rfl (op_box (cs := (Enc.cells (parent : Nm))) rfl rfl rfl) ?_
  rintro _ w1 ⟨b1, rfl, hb1, hB1, hx1⟩
  have hE := hE.trans hx1
  have hR_l := hR_l.ext hx1
  refine L.val (v := (.bool false)) rfl (op_assign rfl rfl) ?_
  refine L.nil ?_
  refine thenF_nor ?_
  have S2_hR_l := hR_l
  have S2_hB1 := hB1
  have S2_hE := hE
  have hS2 : Ext w1 w1 := Ext.refl _
  refine W.cut (fun (f : Fr) (ww : World) => f 0 = (.int .i64 m) ∧ f 4 = (.pointer (some ⟨b1, 0, none⟩)) ∧ f 6 = (.bool false) ∧ SlR ww (f 2) ((l.take 120) : List Vt) ∧ Ext w1 ww) ?_ ?_
  · refine W.seq ?_
    refine W.region (by rfl) ?_
    refine L.val rfl (op_move rfl rfl) ?_
    refine L.val rfl (op_len rfl rfl ln25) ?_
    refine L.val rfl (op_gtr rfl rfl rfl) ?_
    refine L.nil ?_
    refine thenF_nor ?_
    refine W.cond (t := decide (120 < (l.length : Int))) rfl (fun hc4 => ?_) (fun hc4 => ?_)
    · have hp4 := hc4
      simp only [Bool.and_eq_true, Bool.or_eq_true, Bool.and_eq_false_iff, Bool.or_eq_false_iff, Bool.not_eq_true', Bool.not_eq_false', decide_eq_true_eq, decide_eq_false_iff_not] at hp4
      refine W.region (by rfl) ?_
      refine L.val rfl (op_move rfl rfl) ?_
      refine L.step rfl (op_slr_h (k := 120) sl25 rfl rfl rfl (by omega) hcap_l hR_l) ?_
      rintro _ w5 ⟨⟨A5, c5, lo5, hi5, rfl, hcap5, hR5⟩, hx5⟩
      have hE := hE.trans hx5
      have hS2 := hS2.trans hx5
      have hR_l := hR_l.ext hx5
      have hB1 := hB1.ext hx5
      have hlen5 := hR5.len
      refine L.val rfl (op_assign rfl rfl) ?_
      refine L.nil ?_
      refine thenF_nor ?_
      exact ⟨rfl, rfl, rfl, (slr_at (v := (.slice A5 (l.take 120).length c5)) rfl ⟨_, _, _, _, rfl, hcap5, hR5⟩), hS2⟩
    · have hp4 := hc4
      simp only [Bool.and_eq_true, Bool.or_eq_true, Bool.and_eq_false_iff, Bool.or_eq_false_iff, Bool.not_eq_true', Bool.not_eq_false', decide_eq_true_eq, decide_eq_false_iff_not] at hp4
      refine W.skip ?_
      refine thenF_nor ?_
      exact ⟨rfl, rfl, rfl, (by rw [List.take_of_length_le (by omega)]; exact (slr_at (v := (.slice A_l l.length c_l)) rfl ⟨_, _, _, _, rfl, hcap_l, hR_l⟩)), hS2⟩
  · rintro f3 w3 ⟨s3_0, s3_4, s3_6, hL3_2, hS2⟩
    have hR_l := S2_hR_l.ext hS2
    have hB1 := S2_hB1.ext hS2
    have hE := S2_hE.trans hS2
    obtain ⟨A3_2, c3_2, lo3_2, hi3_2, s3_2, hcap3_2, hR3_2⟩ := hL3_2
    have hlen3_2 := hR3_2.len
    refine W.seq ?_
    refine W.region (by rfl) ?_
    refine L.val rfl (op_move rfl s3_0) ?_
    refine L.val rfl (op_load (v := (parent : Nm)) rfl s3_4 ty24 hB1.cells) ?_
    refine L.val rfl (op_move rfl s3_2) ?_
    refine L.step rfl (OpS.call (op_call rfl (argsC rfl (argsC rfl (argsC rfl argsN))) Try.func18 rfl rfl) (Accepted_ok hR3_2 (by first | omega | (simp only [List.length_drop, List.length_take, List.length_append, List.length_cons, List.length_nil] at *; omega)))) ?_
    rintro _ w6 ⟨⟨A6, c6, lo6, hi6, rfl, hcap6, hR6⟩, hx6⟩
    have hE := hE.trans hx6
    have hS2 := hS2.trans hx6
    have hR_l := hR_l.ext hx6
    have hB1 := hB1.ext hx6
    have hR3_2 := hR3_2.ext hx6
    have hlen6 := hR6.len
    refine L.val rfl (op_assign rfl rfl) ?_
    refine L.nil ?_
    refine thenF_nor ?_
    refine W.seq ?_
    have S7_hR_l := hR_l
    have S7_hB1 := hB1
    have S7_hR3_2 := hR3_2
    have S7_hR6 := hR6
    have S7_hE := hE
    have S7_hS2 := hS2
    have hS7 : Ext w6 w6 := Ext.refl _
    refine W.region (by rfl) ?_
    refine L.val rfl (op_assign rfl rfl) ?_
    refine L.nil ?_
    refine thenF_nor ?_
    refine W.seq ?_
    refine W.seq ?_
    refine W.region (by rfl) ?_
    refine L.val (v := (.bool true)) rfl (op_assign rfl rfl) ?_
    refine L.nil ?_
    refine thenF_nor ?_
    refine W.block ?_
    refine W.loopg (γ := Nat × List Vt × Bool) (fun (g : Nat × List Vt × Bool) (f : Fr) (ww : World) => ((g.1 = 2 ∧ g.2.1 = [] ∧ g.2.2 = true) ∨ (g.1 = 1 ∧ g.2.1 = (accepted_f m parent (l.take 120))) ∨ (g.1 = 0 ∧ g.2.1 = (accepted_f m parent (l.take 120)) ∧ g.2.2 = false)) ∧ g.2.1.length ≤ 120 ∧ f 0 = (.int .i64 m) ∧ f 6 = (.bool false) ∧ f 7 = (.slice A6 (accepted_f m parent (l.take 120)).length c6) ∧ f 9 = (.bool g.2.2) ∧ Fk.Own ww w6.heap.size 28 (f 8) g.2.1 ∧ Ext w6 ww) (fun (g : Nat × List Vt × Bool) => g.1) (2, ([] : List Vt), true) ⟨(Or.inl ⟨rfl, rfl, rfl⟩), (by simp), s3_0, s3_6, rfl, rfl, (own_at (v := .slice none 0 0) rfl (Fk.Own.nil _ _ _)), hS7⟩ ?_
    rintro ⟨n, row, grew⟩ f8 w8 ⟨hn, hrl, s8_0, s8_6, s8_7, s8_9, hO8_8, hS7⟩
    dsimp only at hn hrl s8_0 s8_6 s8_7 s8_9 hO8_8 hS7
    have hR_l := S7_hR_l.ext hS7
    have hB1 := S7_hB1.ext hS7
    have hR3_2 := S7_hR3_2.ext hS7
    have hR6 := S7_hR6.ext hS7
    have hE := S7_hE.trans hS7
    have hS2 := S7_hS2.trans hS7
    obtain ⟨v8_8, s8_8⟩ : ∃ v, f8 8 = v := ⟨_, rfl⟩
    rw [s8_8] at hO8_8
    refine W.seq ?_
    refine W.seq ?_
    refine W.region (by rfl) ?_
    refine L.val rfl (op_move rfl s8_9) ?_
    refine L.nil ?_
    refine thenF_nor ?_
    refine W.cond (t := grew) rfl (fun hc9 => ?_) (fun hc9 => ?_)
    · have hp9 := hc9
      have hp_grew := hc9
      refine W.skip ?_
      refine thenF_nor ?_
      refine W.block ?_
      refine W.seq ?_
      refine W.region (by rfl) ?_
      refine L.val (v := (.bool false)) rfl (op_assign rfl rfl) ?_
      refine L.nil ?_
      refine thenF_nor ?_
      refine W.seq ?_
      refine W.region (by rfl) ?_
      refine L.val rfl (op_assign rfl rfl) ?_
      refine L.nil ?_
      refine thenF_nor ?_
      refine W.block ?_
      refine W.loopg (γ := Nat × List Vt × Bool) (fun (g : Nat × List Vt × Bool) (f : Fr) (ww : World) => g.1 ≤ (accepted_f m parent (l.take 120)).length ∧ g.2.1.length ≤ row.length + g.1 ∧ ((accepted_f m parent (l.take 120)).take g.1).foldl (leastStep m) (row, false) = (g.2.1, g.2.2) ∧ f 0 = (.int .i64 m) ∧ f 6 = (.bool false) ∧ f 7 = (.slice A6 (accepted_f m parent (l.take 120)).length c6) ∧ f 20 = (.bool grew) ∧ f 10 = (.int .i64 ((g.1 : Nat) : Int)) ∧ f 9 = (.bool g.2.2) ∧ Fk.Own ww w6.heap.size 28 (f 8) g.2.1 ∧ Ext w6 ww) (fun (g : Nat × List Vt × Bool) => (accepted_f m parent (l.take 120)).length - g.1) (0, row, false) ⟨(by (try dsimp only); omega), (by simp), rfl, s8_0, s8_6, s8_7, rfl, rfl, rfl, (own_at (v := v8_8) s8_8 hO8_8), hS7⟩ ?_
      rintro ⟨k, row2, grew2⟩ f10 w10 ⟨hk, hr2, hst, s10_0, s10_6, s10_7, s10_20, s10_10, s10_9, hO10_8, hS7⟩
      dsimp only at hk hr2 hst s10_0 s10_6 s10_7 s10_20 s10_10 s10_9 hO10_8 hS7
      have hR_l := S7_hR_l.ext hS7
      have hB1 := S7_hB1.ext hS7
      have hR3_2 := S7_hR3_2.ext hS7
      have hR6 := S7_hR6.ext hS7
      have hE := S7_hE.trans hS7
      have hS2 := S7_hS2.trans hS7
      obtain ⟨v10_8, s10_8⟩ : ∃ v, f10 8 = v := ⟨_, rfl⟩
      rw [s10_8] at hO10_8
      refine W.seq ?_
      refine W.seq ?_
      refine W.region (by rfl) ?_
      refine L.val rfl (op_move rfl s10_10) ?_
      refine L.val rfl (op_move rfl s10_7) ?_
      refine L.val rfl (op_len rfl rfl ln25) ?_
      refine L.val rfl (op_lss rfl rfl rfl) ?_
      refine L.nil ?_
      refine thenF_nor ?_
      refine W.cond (t := decide (((k : Nat) : Int) < ((accepted_f m parent (l.take 120)).length : Int))) rfl (fun hc11 => ?_) (fun hc11 => ?_)
      · have hp11 := hc11
        simp only [Bool.and_eq_true, Bool.or_eq_true, Bool.and_eq_false_iff, Bool.or_eq_false_iff, Bool.not_eq_true', Bool.not_eq_false', decide_eq_true_eq, decide_eq_false_iff_not] at hp11
        refine W.skip ?_
        refine thenF_nor ?_
        refine W.seq ?_
        refine W.block ?_
        refine W.seq ?_
        obtain ⟨A12, c12, hv12, hR12, hcap12⟩ := (hO10_8).form
        have hlen12 := hR12.len
        refine W.region (by rfl) ?_
        refine L.val rfl (op_move rfl ((show _ = v10_8 from s10_8).trans hv12)) ?_
        refine L.val rfl (op_move rfl s10_7) ?_
        refine L.val rfl (op_move rfl s10_10) ?_
        refine L.val rfl (op_index (k := k) rfl rfl rfl sl25 (hR6.getA (get_bang (l := accepted_f m parent (l.take 120)) (k := k) (by omega))).1 rfl (by omega) rfl) ?_
        refine L.val rfl (op_load (v := (accepted_f m parent (l.take 120))[k]!) rfl rfl ty28 (hR6.getA (get_bang (l := accepted_f m parent (l.take 120)) (k := k) (by omega))).2) ?_
        refine L.call (v := (.bool (row2.any (fun x => decide (x = (accepted_f m parent (l.take 120))[k]!))))) rfl (OpS.call (op_call rfl (argsC rfl (argsC rfl argsN)) Try.func19 rfl rfl) (has12_ok hR12)) ?_
        intro w13 hx13
        have hE := hE.trans hx13
        have hS2 := hS2.trans hx13
        have hS7 := hS7.trans hx13
        have hR_l := hR_l.ext hx13
        have hB1 := hB1.ext hx13
        have hR3_2 := hR3_2.ext hx13
        have hR6 := hR6.ext hx13
        have hO10_8 := hO10_8.ext hx13
        have hR12 := hR12.ext hx13
        refine L.val rfl (op_not rfl rfl) ?_
        refine L.val rfl (op_move rfl rfl) ?_
        refine L.guardv (v := (.int .i64 m)) (wanted_yes rfl rfl rfl) (fun hg => (op_move rfl s10_0)) ?_
        refine L.guardv (v := (.slice A6 (accepted_f m parent (l.take 120)).length c6)) (wanted_yes rfl rfl rfl) (fun hg => (op_move rfl s10_7)) ?_
        refine L.guardv (v := (.int .i64 ((k : Nat) : Int))) (wanted_yes rfl rfl rfl) (fun hg => (op_move rfl s10_10)) ?_
        refine L.guardv (v := (.pointer (some ((adr A6).add (k * 22))))) (wanted_yes rfl rfl rfl) (fun hg => by have hp := hg; simp only [Bool.and_eq_true, Bool.or_eq_true, Bool.not_eq_true', decide_eq_true_eq, decide_eq_false_iff_not, bne_iff_ne, beq_iff_eq] at hp; exact (op_index (k := k) rfl ((show _ = vif _ (.slice A6 (accepted_f m parent (l.take 120)).length c6) from rfl).trans (vif_t hg).symm) ((show _ = vif _ (.int .i64 ((k : Nat) : Int)) from rfl).trans (vif_t hg).symm) sl25 (hR6.getA (get_bang (l := accepted_f m parent (l.take 120)) (k := k) (by omega))).1 rfl (by omega) rfl)) ?_
        refine L.guardv (v := (Enc.val ((accepted_f m parent (l.take 120))[k]!))) (wanted_yes rfl rfl rfl) (fun hg => by have hp := hg; simp only [Bool.and_eq_true, Bool.or_eq_true, Bool.not_eq_true', decide_eq_true_eq, decide_eq_false_iff_not, bne_iff_ne, beq_iff_eq] at hp; exact (op_load (v := (accepted_f m parent (l.take 120))[k]!) rfl ((show _ = vif _ (.pointer (some ((adr A6).add (k * 22)))) from rfl).trans (vif_t hg).symm) ty28 (hR6.getA (get_bang (l := accepted_f m parent (l.take 120)) (k := k) (by omega))).2)) ?_
        refine L.guardv (v := (.slice A12 row2.length c12)) (wanted_yes rfl rfl rfl) (fun hg => (op_move rfl ((show _ = v10_8 from s10_8).trans hv12))) ?_
        refine L.guardc (v := (.bool (allowed_f m ((accepted_f m parent (l.take 120))[k]!) row2))) (wanted_yes rfl rfl rfl) (fun hg => by have hp := hg; simp only [Bool.and_eq_true, Bool.or_eq_true, Bool.not_eq_true', decide_eq_true_eq, decide_eq_false_iff_not, bne_iff_ne, beq_iff_eq] at hp; exact (OpS.call (op_call rfl (argsC ((show _ = vif _ (.int .i64 m) from rfl).trans (vif_t hg).symm) (argsC ((show _ = vif _ (Enc.val ((accepted_f m parent (l.take 120))[k]!)) from rfl).trans (vif_t hg).symm) (argsC ((show _ = vif _ (.slice A12 row2.length c12) from rfl).trans (vif_t hg).symm) argsN))) Try.func20 rfl rfl) (Allowed_ok hR12 (by first | omega | (simp only [List.length_drop, List.length_take, List.length_append, List.length_cons, List.length_nil] at *; omega))))) ?_
        intro w14 hx14
        have hE := hE.trans hx14
        have hS2 := hS2.trans hx14
        have hS7 := hS7.trans hx14
        have hR_l := hR_l.ext hx14
        have hB1 := hB1.ext hx14
        have hR3_2 := hR3_2.ext hx14
        have hR6 := hR6.ext hx14
        have hO10_8 := hO10_8.ext hx14
        have hR12 := hR12.ext hx14
        refine L.val rfl (op_and rfl rfl rfl rfl) ?_
        refine L.nil ?_
        refine thenF_nor ?_
        refine W.cond (t := (!(row2.any (fun x => decide (x = (accepted_f m parent (l.take 120))[k]!)))) && (allowed_f m ((accepted_f m parent (l.take 120))[k]!) row2)) rfl (fun hc15 => ?_) (fun hc15 => ?_)
        · have hp15 := hc15
          simp only [Bool.and_eq_true, Bool.or_eq_true, Bool.and_eq_false_iff, Bool.or_eq_false_iff, Bool.not_eq_true', Bool.not_eq_false', decide_eq_true_eq, decide_eq_false_iff_not] at hp15
          have hstep := hc15
          refine W.region (by rfl) ?_
          refine L.val rfl (op_move rfl s10_8) ?_
          refine L.val rfl (op_move rfl s10_7) ?_
          refine L.val rfl (op_move rfl s10_10) ?_
          refine L.val rfl (op_index (k := k) rfl rfl rfl sl25 (hR6.getA (get_bang (l := accepted_f m parent (l.take 120)) (k := k) (by omega))).1 rfl (by omega) rfl) ?_
          refine L.val rfl (op_load (v := (accepted_f m parent (l.take 120))[k]!) rfl rfl ty28 (hR6.getA (get_bang (l := accepted_f m parent (l.take 120)) (k := k) (by omega))).2) ?_
          refine L.step rfl (op_slice1 (a := ((accepted_f m parent (l.take 120))[k]! : Vt)) rfl rfl sl25 zs28 (by decide)) ?_
          rintro _ w16 ⟨b16, rfl, hb16, hB16, hx16⟩
          have hE := hE.trans hx16
          have hS2 := hS2.trans hx16
          have hS7 := hS7.trans hx16
          have hR_l := hR_l.ext hx16
          have hB1 := hB1.ext hx16
          have hR3_2 := hR3_2.ext hx16
          have hR6 := hR6.ext hx16
          have hO10_8 := hO10_8.ext hx16
          have hR12 := hR12.ext hx16
          refine L.step rfl (op_append (a := ((accepted_f m parent (l.take 120))[k]! : Vt)) (ad := ⟨b16, 0, none⟩) rfl rfl rfl sl25 zs28 bt28 hO10_8 hB16.cells (by omega) (by decide) hS7.size) ?_
          rintro v17 w17 ⟨hO17, hg17⟩
          have hS7 := hS7.own hO10_8 hg17
          have hR_l := S7_hR_l.ext hS7
          have hB1 := S7_hB1.ext hS7
          have hR3_2 := S7_hR3_2.ext hS7
          have hR6 := S7_hR6.ext hS7
          have hE := S7_hE.trans hS7
          have hS2 := S7_hS2.trans hS7
          refine L.val rfl (op_assign rfl rfl) ?_
          refine L.val (v := (.bool true)) rfl (op_assign rfl rfl) ?_
          refine L.nil ?_
          refine blockF_nor ?_
          refine thenF_nor ?_
          refine W.region (by rfl) ?_
          refine L.val rfl (op_move rfl s10_10) ?_
          refine L.val rfl (op_add (c := ((k + 1 : Nat) : Int)) rfl rfl rfl (by omega) (by omega)) ?_
          refine L.val rfl (op_assign rfl rfl) ?_
          refine L.nil ?_
          refine thenF_nor ?_
          exact ⟨(k + 1, (row2 ++ [(accepted_f m parent (l.take 120))[k]!]), true), ⟨(by (try dsimp only); omega), (by simp only [List.length_append, List.length_cons, List.length_nil]; omega), (by dsimp only; rw [fold_go (by omega), hst]; unfold leastStep; dsimp only; rw [hstep]; rfl), s10_0, s10_6, s10_7, s10_20, rfl, rfl, (own_at (v := v17) rfl hO17), hS7⟩, (by (try dsimp only); omega)⟩
        · have hp15 := hc15
          simp only [Bool.and_eq_true, Bool.or_eq_true, Bool.and_eq_false_iff, Bool.or_eq_false_iff, Bool.not_eq_true', Bool.not_eq_false', decide_eq_true_eq, decide_eq_false_iff_not] at hp15
          have hstep := hc15
          refine W.skip ?_
          refine blockF_nor ?_
          refine thenF_nor ?_
          refine W.region (by rfl) ?_
          refine L.val rfl (op_move rfl s10_10) ?_
          refine L.val rfl (op_add (c := ((k + 1 : Nat) : Int)) rfl rfl rfl (by omega) (by omega)) ?_
          refine L.val rfl (op_assign rfl rfl) ?_
          refine L.nil ?_
          refine thenF_nor ?_
          exact ⟨(k + 1, row2, grew2), ⟨(by (try dsimp only); omega), (by simp only [List.length_append, List.length_cons, List.length_nil]; omega), (by dsimp only; rw [fold_go (by omega), hst]; unfold leastStep; dsimp only; rw [hstep]; rfl), s10_0, s10_6, s10_7, s10_20, rfl, s10_9, (own_at (v := v10_8) s10_8 hO10_8), hS7⟩, (by (try dsimp only); omega)⟩
      · have hp11 := hc11
        simp only [Bool.and_eq_true, Bool.or_eq_true, Bool.and_eq_false_iff, Bool.or_eq_false_iff, Bool.not_eq_true', Bool.not_eq_false', decide_eq_true_eq, decide_eq_false_iff_not] at hp11
        have hkl : k = (accepted_f m parent (l.take 120)).length := by omega
        rw [hkl, List.take_length] at hst
        refine W.exit ?_
        refine thenF_exit ?_
        refine thenF_exit ?_
        refine blockF_hit ?_
        refine blockF_nor ?_
        refine thenF_nor ?_
        exact ⟨(n - 1, row2, grew2), ⟨(least_next hn hp_grew hst), (by have hnl := least_next_len hn hp_grew hst; dsimp only; omega), s10_0, s10_6, s10_7, s10_9, (own_at (v := v10_8) s10_8 hO10_8), hS7⟩, (by rcases hn with ⟨e, _⟩ | ⟨e, _⟩ | ⟨_, _, e⟩; all_goals first | (dsimp only; omega) | (rw [hp_grew] at e; cases e))⟩
    · have hp9 := hc9
      have hrow := least_out hn hc9
      refine W.exit ?_
      refine thenF_exit ?_
      refine thenF_exit ?_
      refine blockF_hit ?_
      refine thenF_nor ?_
      refine W.seq ?_
      obtain ⟨A18, c18, hv18, hR18, hcap18⟩ := (hO8_8).form
      have hlen18 := hR18.len
      refine W.region (by rfl) ?_
      refine L.val rfl (op_move rfl ((show _ = v8_8 from s8_8).trans hv18)) ?_
      refine L.val rfl (op_len rfl rfl ln25) ?_
      refine L.val rfl (op_move rfl s8_7) ?_
      refine L.val rfl (op_len rfl rfl ln25) ?_
      refine L.val rfl (op_eql rfl rfl rfl) ?_
      refine L.val rfl (op_move rfl rfl) ?_
      refine L.guardc (v := (.bool true)) (wanted_yes rfl rfl rfl) (fun hg => (OpS.call (op_call rfl argsN Try.func23 rfl rfl) awake12_ok)) ?_
      intro w19 hx19
      have hE := hE.trans hx19
      have hS2 := hS2.trans hx19
      have hS7 := hS7.trans hx19
      have hR_l := hR_l.ext hx19
      have hB1 := hB1.ext hx19
      have hR3_2 := hR3_2.ext hx19
      have hR6 := hR6.ext hx19
      have hO8_8 := hO8_8.ext hx19
      have hR18 := hR18.ext hx19
      refine L.val rfl (op_and rfl rfl rfl rfl) ?_
      refine L.val rfl (op_assign rfl rfl) ?_
      refine L.nil ?_
      refine thenF_nor ?_
      refine W.ret ?_
      exact end_ret1 (v := (.bool ((decide ((row.length : Int) = ((accepted_f m parent (l.take 120)).length : Int))) && true))) rfl rfl ⟨(by rw [hrow]; simp), hE⟩

end Go.Proofs.Ytdknjfmjddlphaa
