/-
  Contracts of functions of the program, each with its walk in the logic of frames. Printed by a program of this session (wip/gen) from the translation.
-/
import Derived.Test.YtdknjfmjddlphaaZd
import Derived.Test.YtdknjfmjddlphaaDefs6
import Derived.Test.YtdknjfmjddlphaaSkip
set_option linter.unusedSimpArgs false
set_option linter.unusedVariables false
namespace Go.Proofs.Ytdknjfmjddlphaa
open Go Go.Fk

set_option maxRecDepth 100000 in
set_option maxHeartbeats 4000000 in
theorem Decide_ok {m : Int} {parent : Nm} {A_l : Option Addr} {c_l lo_l hi_l : Nat} {l : List Vt}  {w : World} (hR_l : Rd w lo_l hi_l A_l l) (hl : l.length ≤ 1000000) : Gives Try.prog 40 #[(.int .i64 m), (Enc.val (parent : Nm)), (.slice A_l l.length c_l)] w fun u w' => (∃ s, u = .tuple #[s, .bool ((decide17_f m parent l).2)] ∧ SlR w' s ((decide17_f m parent l).1 : List Oc)) ∧ Ext w w' := by
  have hE : Ext w w := Ext.refl w
  have hlen_l := hR_l.len
  refine gives_of_W Try.func40 rfl Try.ntmps40 rfl ?_
  refine W.seq ?_
  refine W.region (by rfl) ?_
  refine L.step rfl (op_box (cs := (Enc.cells (parent : Nm))) rfl rfl rfl) ?_
  rintro _ w1 ⟨b1, rfl, hb1, hB1, hx1⟩
  have hE := hE.trans hx1
  have hR_l := hR_l.ext hx1
  refine L.val rfl (op_assign rfl rfl) ?_
  refine L.val (v := (.bool false)) rfl (op_assign rfl rfl) ?_
  refine L.nil ?_
  refine thenF_nor ?_
  refine W.seq ?_
  refine W.region (by rfl) ?_
  refine L.val rfl (op_assign rfl rfl) ?_
  refine L.nil ?_
  refine thenF_nor ?_
  refine W.seq ?_
  refine W.seq ?_
  refine W.region (by rfl) ?_
  refine L.val rfl (op_move rfl rfl) ?_
  refine L.nil ?_
  refine thenF_nor ?_
  refine W.block ?_
  have S2_hR_l := hR_l
  have S2_hB1 := hB1
  have S2_hE := hE
  have hS2 : Ext w1 w1 := Ext.refl _
  refine W.loopg (γ := Nat) (fun (k : Nat) (f : Fr) (ww : World) => k ≤ 10 ∧ (idsUpto m k).all (some17 m parent l) = true ∧ f 0 = (.int .i64 m) ∧ f 2 = (.slice A_l l.length c_l) ∧ f 4 = (.pointer (some ⟨b1, 0, none⟩)) ∧ f 11 = (.int .i64 ((k : Nat) : Int)) ∧ Fk.Own ww w1.heap.size 49 (f 8) ((idsUpto m k).map (first17 m parent l)) ∧ Ext w1 ww) (fun (k : Nat) => 10 - k) 0 ⟨(by (try dsimp only); omega), rfl, rfl, rfl, rfl, rfl, (own_at (v := .slice none 0 0) rfl (Fk.Own.nil _ _ _)), hS2⟩ ?_
  rintro k f3 w3 ⟨hk, hall, s3_0, s3_2, s3_4, s3_11, hO3_8, hS2⟩
  have hR_l := S2_hR_l.ext hS2
  have hB1 := S2_hB1.ext hS2
  have hE := S2_hE.trans hS2
  obtain ⟨v3_8, s3_8⟩ : ∃ v, f3 8 = v := ⟨_, rfl⟩
  rw [s3_8] at hO3_8
  have hidl := idsUpto_len m k
  have hml : ((idsUpto m k).map (first17 m parent l)).length = (idsUpto m k).length := List.length_map _
  refine W.seq ?_
  refine W.region (by rfl) ?_
  refine L.val rfl (op_lss rfl s3_11 rfl) ?_
  refine L.nil ?_
  refine thenF_nor ?_
  refine W.seq ?_
  refine W.cond (t := decide (((k : Nat) : Int) < 10)) rfl (fun hc4 => ?_) (fun hc4 => ?_)
  · have hp4 := hc4
    simp only [Bool.and_eq_true, Bool.or_eq_true, Bool.and_eq_false_iff, Bool.or_eq_false_iff, Bool.not_eq_true', Bool.not_eq_false', decide_eq_true_eq, decide_eq_false_iff_not] at hp4
    refine W.skip ?_
    refine thenF_nor ?_
    refine W.seq ?_
    refine W.block ?_
    refine W.seq ?_
    refine W.region (by rfl) ?_
    refine L.val rfl (op_move rfl s3_11) ?_
    refine L.val rfl (op_assign rfl rfl) ?_
    refine L.nil ?_
    refine thenF_nor ?_
    refine W.seq ?_
    refine W.seq ?_
    refine W.region (by rfl) ?_
    refine L.val rfl (op_move rfl s3_0) ?_
    refine L.val rfl (op_move rfl rfl) ?_
    refine L.call (v := (.bool (has_f m ((k : Nat) : Int)))) rfl (OpS.call (op_call rfl (argsC rfl (argsC rfl argsN)) Try.func54 rfl rfl) Has_ok) ?_
    intro w5 hx5
    have hE := hE.trans hx5
    have hS2 := hS2.trans hx5
    have hR_l := hR_l.ext hx5
    have hB1 := hB1.ext hx5
    have hO3_8 := hO3_8.ext hx5
    refine L.val rfl (op_not rfl rfl) ?_
    refine L.nil ?_
    refine thenF_nor ?_
    refine W.cond (t := !(has_f m ((k : Nat) : Int))) rfl (fun hc6 => ?_) (fun hc6 => ?_)
    · have hp6 := hc6
      simp only [Bool.and_eq_true, Bool.or_eq_true, Bool.and_eq_false_iff, Bool.or_eq_false_iff, Bool.not_eq_true', Bool.not_eq_false', decide_eq_true_eq, decide_eq_false_iff_not] at hp6
      have hh := hc6
      simp only [Bool.not_eq_true'] at hh
      have hstep := dec_no (parent := parent) (l := l) hh
      have hlen : has_f m ((k : Nat) : Int) = true → 0 < (outcomes_f m parent l ((k : Nat) : Int)).length := fun h => by rw [hh] at h; cases h
      refine W.exit ?_
      refine thenF_exit ?_
      refine blockF_hit ?_
      refine thenF_nor ?_
      refine W.region (by rfl) ?_
      refine L.val rfl (op_add (c := ((k + 1 : Nat) : Int)) rfl s3_11 rfl (by omega) (by omega)) ?_
      refine L.val rfl (op_move rfl rfl) ?_
      refine L.nil ?_
      refine thenF_nor ?_
      exact ⟨k + 1, ⟨(by (try dsimp only); omega), (dec_all hall hlen), s3_0, s3_2, s3_4, rfl, (own_at (v := v3_8) s3_8 (by rw [← hstep]; exact hO3_8)), hS2⟩, (by (try dsimp only); omega)⟩
    · have hp6 := hc6
      simp only [Bool.and_eq_true, Bool.or_eq_true, Bool.and_eq_false_iff, Bool.or_eq_false_iff, Bool.not_eq_true', Bool.not_eq_false', decide_eq_true_eq, decide_eq_false_iff_not] at hp6
      have hh := hc6
      simp only [Bool.not_eq_false'] at hh
      refine W.skip ?_
      refine thenF_nor ?_
      refine W.seq ?_
      refine W.region (by rfl) ?_
      refine L.val rfl (op_move rfl s3_0) ?_
      refine L.val rfl (op_load (v := (parent : Nm)) rfl s3_4 ty24 hB1.cells) ?_
      refine L.val rfl (op_move rfl s3_2) ?_
      refine L.val rfl (op_move rfl rfl) ?_
      refine L.step rfl (OpS.call (op_call rfl (argsC rfl (argsC rfl (argsC rfl (argsC rfl argsN)))) Try.func26 rfl rfl) (Outcomes_ok hR_l (by first | omega | (simp only [List.length_drop, List.length_take, List.length_append, List.length_cons, List.length_nil] at *; omega)))) ?_
      rintro _ w7 ⟨⟨A7, c7, lo7, hi7, rfl, hcap7, hR7⟩, hx7⟩
      have hE := hE.trans hx7
      have hS2 := hS2.trans hx7
      have hR_l := hR_l.ext hx7
      have hB1 := hB1.ext hx7
      have hO3_8 := hO3_8.ext hx7
      have hlen7 := hR7.len
      refine L.val rfl (op_assign rfl rfl) ?_
      refine L.nil ?_
      refine thenF_nor ?_
      refine W.seq ?_
      refine W.seq ?_
      refine W.region (by rfl) ?_
      refine L.val rfl (op_move rfl rfl) ?_
      refine L.val rfl (op_len rfl rfl ln37) ?_
      refine L.val rfl (op_eql rfl rfl rfl) ?_
      refine L.nil ?_
      refine thenF_nor ?_
      refine W.cond (t := decide (((outcomes_f m parent l ((k : Nat) : Int)).length : Int) = 0)) rfl (fun hc8 => ?_) (fun hc8 => ?_)
      · have hp8 := hc8
        simp only [Bool.and_eq_true, Bool.or_eq_true, Bool.and_eq_false_iff, Bool.or_eq_false_iff, Bool.not_eq_true', Bool.not_eq_false', decide_eq_true_eq, decide_eq_false_iff_not] at hp8
        have hnone := dec_none (parent := parent) (l := l) (by omega) hh (by have h0 := hc8; simp only [decide_eq_true_eq] at h0; omega)
        refine W.seq ?_
        refine W.region (by rfl) ?_
        refine L.val rfl (op_assign rfl rfl) ?_
        refine L.val (v := (.bool false)) rfl (op_assign rfl rfl) ?_
        refine L.nil ?_
        refine thenF_nor ?_
        refine W.ret ?_
        refine thenF_ret ?_
        refine blockF_ret ?_
        refine thenF_ret ?_
        refine thenF_ret ?_
        refine blockF_ret ?_
        refine thenF_ret ?_
        exact end_ret2 (v := (.slice none 0 0)) (v' := (.bool false)) rfl rfl rfl ⟨⟨_, (by rw [hnone]), (by rw [hnone]; exact SlR.nil _)⟩, hE⟩
      · have hp8 := hc8
        simp only [Bool.and_eq_true, Bool.or_eq_true, Bool.and_eq_false_iff, Bool.or_eq_false_iff, Bool.not_eq_true', Bool.not_eq_false', decide_eq_true_eq, decide_eq_false_iff_not] at hp8
        have hstep := dec_yes (parent := parent) (l := l) hh
        have hlen : has_f m ((k : Nat) : Int) = true → 0 < (outcomes_f m parent l ((k : Nat) : Int)).length := fun _ => by have h0 := hc8; simp only [decide_eq_false_iff_not] at h0; omega
        refine W.skip ?_
        refine thenF_nor ?_
        refine W.region (by rfl) ?_
        refine L.val rfl (op_move rfl s3_8) ?_
        refine L.val rfl (op_move rfl rfl) ?_
        refine L.val rfl (op_index (k := 0) rfl rfl rfl sl37 (hR7.getA (get_bang (l := outcomes_f m parent l ((k : Nat) : Int)) (k := 0) (by omega))).1 rfl (by omega) rfl) ?_
        refine L.val rfl (op_load (v := (outcomes_f m parent l ((k : Nat) : Int))[0]!) rfl rfl ty49 (hR7.getA (get_bang (l := outcomes_f m parent l ((k : Nat) : Int)) (k := 0) (by omega))).2) ?_
        refine L.step rfl (op_slice1 (a := (outcomes_f m parent l ((k : Nat) : Int))[0]!) rfl rfl sl37 zs49 (by decide)) ?_
        rintro _ w9 ⟨b9, rfl, hb9, hB9, hx9⟩
        have hE := hE.trans hx9
        have hS2 := hS2.trans hx9
        have hR_l := hR_l.ext hx9
        have hB1 := hB1.ext hx9
        have hO3_8 := hO3_8.ext hx9
        have hR7 := hR7.ext hx9
        refine L.step rfl (op_append (a := (outcomes_f m parent l ((k : Nat) : Int))[0]!) (ad := ⟨b9, 0, none⟩) rfl rfl rfl sl37 zs49 bt49 hO3_8 hB9.cells (by omega) (by decide) hS2.size) ?_
        rintro v10 w10 ⟨hO10, hg10⟩
        have hS2 := hS2.own hO3_8 hg10
        have hR_l := S2_hR_l.ext hS2
        have hB1 := S2_hB1.ext hS2
        have hE := S2_hE.trans hS2
        refine L.val rfl (op_assign rfl rfl) ?_
        refine L.nil ?_
        refine blockF_nor ?_
        refine thenF_nor ?_
        refine W.region (by rfl) ?_
        refine L.val rfl (op_add (c := ((k + 1 : Nat) : Int)) rfl s3_11 rfl (by omega) (by omega)) ?_
        refine L.val rfl (op_move rfl rfl) ?_
        refine L.nil ?_
        refine thenF_nor ?_
        exact ⟨k + 1, ⟨(by (try dsimp only); omega), (dec_all hall hlen), s3_0, s3_2, s3_4, rfl, (own_at (v := v10) rfl (by rw [← hstep]; exact hO10)), hS2⟩, (by (try dsimp only); omega)⟩
  · have hp4 := hc4
    simp only [Bool.and_eq_true, Bool.or_eq_true, Bool.and_eq_false_iff, Bool.or_eq_false_iff, Bool.not_eq_true', Bool.not_eq_false', decide_eq_true_eq, decide_eq_false_iff_not] at hp4
    have hk10 : k = 10 := by omega
    subst hk10
    have hsome := dec_some hall
    refine W.exit ?_
    refine thenF_exit ?_
    refine thenF_exit ?_
    refine blockF_hit ?_
    refine thenF_nor ?_
    refine W.seq ?_
    obtain ⟨A11, c11, hv11, hR11, hcap11⟩ := (hO3_8).form
    have hlen11 := hR11.len
    refine W.region (by rfl) ?_
    refine L.val rfl (op_move rfl ((show _ = v3_8 from s3_8).trans hv11)) ?_
    refine L.val rfl (op_move rfl ((show _ = v3_8 from s3_8).trans hv11)) ?_
    refine L.val rfl (op_len rfl rfl ln37) ?_
    refine L.val rfl (op_gtr rfl rfl rfl) ?_
    refine L.val rfl (op_assign rfl rfl) ?_
    refine L.val rfl (op_assign rfl rfl) ?_
    refine L.nil ?_
    refine thenF_nor ?_
    refine W.ret ?_
    exact end_ret2 (v := (.slice A11 ((idsUpto m 10).map (first17 m parent l)).length c11)) (v' := (.bool (decide (0 < (((idsUpto m 10).map (first17 m parent l)).length : Int))))) rfl rfl rfl ⟨⟨_, (by rw [hsome]), (by rw [hsome]; exact (⟨_, _, _, _, rfl, hcap11, hR11⟩ : SlR _ _ _))⟩, hE⟩

set_option maxRecDepth 100000 in
theorem Choices_ok {A_l : Option Addr} {c_l lo_l hi_l : Nat} {l : List Oc}  {w : World} (hR_l : Rd w lo_l hi_l A_l l) (hl : l.length ≤ 1000000) : Gives Try.prog 42 #[(.slice A_l l.length c_l)] w fun u w' => SlR w' u (choices_f l : List Ch) ∧ Ext w w' := by
  have hE : Ext w w := Ext.refl w
  have hlen_l := hR_l.len
  refine gives_of_W Try.func42 rfl Try.ntmps42 rfl ?_
  refine W.seq ?_
  refine W.region (by rfl) ?_
  refine L.val rfl (op_assign rfl rfl) ?_
  refine L.nil ?_
  refine thenF_nor ?_
  refine W.seq ?_
  refine W.region (by rfl) ?_
  refine L.val rfl (op_assign rfl rfl) ?_
  refine L.nil ?_
  refine thenF_nor ?_
  refine W.seq ?_
  refine W.seq ?_
  refine W.region (by rfl) ?_
  refine L.val rfl (op_move rfl rfl) ?_
  refine L.val rfl (op_len rfl rfl ln37) ?_
  refine L.val rfl (op_move rfl rfl) ?_
  refine L.nil ?_
  refine thenF_nor ?_
  refine W.block ?_
  have S1_hR_l := hR_l
  have S1_hE := hE
  have hS1 : Ext w w := Ext.refl _
  refine W.loopg (γ := Nat) (fun (k : Nat) (f : Fr) (ww : World) => k ≤ l.length ∧ f 2 = (.slice none 0 0) ∧ f 6 = (.slice A_l l.length c_l) ∧ f 7 = (.int .i64 (l.length : Int)) ∧ f 8 = (.int .i64 ((k : Nat) : Int)) ∧ Fk.Own ww w.heap.size 82 (f 3) ((l.take k).map chOf) ∧ Ext w ww) (fun (k : Nat) => l.length - k) 0 ⟨(by (try dsimp only); omega), rfl, rfl, rfl, rfl, (own_at (v := .slice none 0 0) rfl (Fk.Own.nil _ _ _)), hS1⟩ ?_
  rintro k f2 w2 ⟨hk, s2_2, s2_6, s2_7, s2_8, hO2_3, hS1⟩
  have hR_l := S1_hR_l.ext hS1
  have hE := S1_hE.trans hS1
  obtain ⟨v2_3, s2_3⟩ : ∃ v, f2 3 = v := ⟨_, rfl⟩
  rw [s2_3] at hO2_3
  have hml : ((l.take k).map chOf).length = (l.take k).length := List.length_map _
  have htl := List.length_take_le' k l
  have htl2 := List.length_take_le k l
  refine W.seq ?_
  refine W.region (by rfl) ?_
  refine L.val rfl (op_lss rfl s2_8 s2_7) ?_
  refine L.nil ?_
  refine thenF_nor ?_
  refine W.seq ?_
  refine W.cond (t := decide (((k : Nat) : Int) < (l.length : Int))) rfl (fun hc3 => ?_) (fun hc3 => ?_)
  · have hp3 := hc3
    simp only [Bool.and_eq_true, Bool.or_eq_true, Bool.and_eq_false_iff, Bool.or_eq_false_iff, Bool.not_eq_true', Bool.not_eq_false', decide_eq_true_eq, decide_eq_false_iff_not] at hp3
    refine W.skip ?_
    refine thenF_nor ?_
    refine W.seq ?_
    refine W.block ?_
    refine W.seq ?_
    refine W.region (by rfl) ?_
    refine L.val rfl (op_index (k := k) rfl s2_6 s2_8 sl37 (hR_l.getA (get_bang (l := l) (k := k) (by omega))).1 rfl (by omega) rfl) ?_
    refine L.val rfl (op_load (v := (l[k]! : Oc)) rfl rfl ty49 (hR_l.getA (get_bang (l := l) (k := k) (by omega))).2) ?_
    refine L.newvar (v := (Enc.val (l[k]! : Oc))) (cs := (Enc.cells (l[k]! : Oc))) rfl rfl rfl rfl rfl rfl (fun _ => rfl) rfl si49 zs49 (Enc.one _) ?_
    intro b4 w4 hb4 hB4 hx4
    have hbb4_hE := Nat.le_trans hE.size hb4
    have hbb4_hS1 := Nat.le_trans hS1.size hb4
    have hE := hE.trans hx4
    have hS1 := hS1.trans hx4
    have hR_l := hR_l.ext hx4
    have hO2_3 := hO2_3.ext hx4
    refine L.nil ?_
    refine thenF_nor ?_
    refine W.region (by rfl) ?_
    refine L.val rfl (op_move rfl s2_3) ?_
    refine L.val rfl (op_field rfl rfl fo49_0 rfl) ?_
    refine L.val rfl (op_load1 rfl rfl one3 (hB4.cells.one (n := 0) rfl)) ?_
    refine L.val rfl (op_field rfl rfl fo49_3 rfl) ?_
    refine L.val rfl (op_load (v := ((l[k]!).value : Nm)) rfl rfl ty24 (sub_nm 3 hB4.cells rfl)) ?_
    refine L.val rfl (op_build (v := Enc.val (⟨(l[k]!).slot, (l[k]!).value⟩ : Ch)) (cs := Enc.cells (⟨(l[k]!).slot, (l[k]!).value⟩ : Ch)) rfl (partsC rfl (partsC rfl partsN)) (by kernel_rfl) rfl) ?_
    refine L.step rfl (op_slice1 (a := (⟨(l[k]!).slot, (l[k]!).value⟩ : Ch)) rfl rfl sl51 zs82 (by decide)) ?_
    rintro _ w5 ⟨b5, rfl, hb5, hB5, hx5⟩
    have hE := hE.trans hx5
    have hS1 := hS1.trans hx5
    have hR_l := hR_l.ext hx5
    have hO2_3 := hO2_3.ext hx5
    have hB4 := hB4.ext hx5
    refine L.step rfl (op_append (a := (⟨(l[k]!).slot, (l[k]!).value⟩ : Ch)) (ad := ⟨b5, 0, none⟩) rfl rfl rfl sl51 zs82 bt82 hO2_3 hB5.cells (by omega) (by decide) hS1.size) ?_
    rintro v6 w6 ⟨hO6, hg6⟩
    have hS1 := hS1.own hO2_3 hg6
    have hR_l := S1_hR_l.ext hS1
    have hE := S1_hE.trans hS1
    refine L.val rfl (op_assign rfl rfl) ?_
    refine L.nil ?_
    refine blockF_nor ?_
    refine thenF_nor ?_
    refine W.region (by rfl) ?_
    refine L.val rfl (op_add (c := ((k + 1 : Nat) : Int)) rfl s2_8 rfl (by omega) (by omega)) ?_
    refine L.val rfl (op_move rfl rfl) ?_
    refine L.nil ?_
    refine thenF_nor ?_
    exact ⟨k + 1, ⟨(by (try dsimp only); omega), s2_2, s2_6, s2_7, rfl, (own_at (v := v6) rfl (by rw [← map_take_go (f := chOf) (l := l) (k := k) (by omega)]; exact hO6)), hS1⟩, (by (try dsimp only); omega)⟩
  · have hp3 := hc3
    simp only [Bool.and_eq_true, Bool.or_eq_true, Bool.and_eq_false_iff, Bool.or_eq_false_iff, Bool.not_eq_true', Bool.not_eq_false', decide_eq_true_eq, decide_eq_false_iff_not] at hp3
    have hkl : k = l.length := by omega
    rw [hkl, List.take_length] at hO2_3
    refine W.exit ?_
    refine thenF_exit ?_
    refine thenF_exit ?_
    refine blockF_hit ?_
    refine thenF_nor ?_
    refine W.seq ?_
    obtain ⟨A7, c7, hv7, hR7, hcap7⟩ := (hO2_3).form
    have hlen7 := hR7.len
    refine W.region (by rfl) ?_
    refine L.val rfl (op_move rfl ((show _ = v2_3 from s2_3).trans hv7)) ?_
    refine L.val rfl (op_assign rfl rfl) ?_
    refine L.nil ?_
    refine thenF_nor ?_
    refine W.ret ?_
    exact end_ret1 (v := (.slice A7 (choices_f l).length c7)) rfl rfl ⟨(⟨_, _, _, _, rfl, hcap7, hR7⟩ : SlR _ _ _), hE⟩

set_option maxRecDepth 100000 in
theorem has17_ok {A_l : Option Addr} {c_l lo_l hi_l : Nat} {l : List Oc} {v : Nm}  {w : World} (hR_l : Rd w lo_l hi_l A_l l) : Gives Try.prog 68 #[(.slice A_l l.length c_l), (Enc.val (v : Nm))] w fun u w' => u = (.bool (has17_f l v)) ∧ Ext w w' := by
  have hE : Ext w w := Ext.refl w
  have hlen_l := hR_l.len
  refine gives_of_W Try.func68 rfl Try.ntmps68 rfl ?_
  refine W.seq ?_
  refine W.region (by rfl) ?_
  refine L.step rfl (op_box (cs := (Enc.cells (v : Nm))) rfl rfl rfl) ?_
  rintro _ w1 ⟨b1, rfl, hb1, hB1, hx1⟩
  have hE := hE.trans hx1
  have hR_l := hR_l.ext hx1
  refine L.val (v := (.bool false)) rfl (op_assign rfl rfl) ?_
  refine L.nil ?_
  refine thenF_nor ?_
  refine W.seq ?_
  refine W.seq ?_
  refine W.region (by rfl) ?_
  refine L.val rfl (op_move rfl rfl) ?_
  refine L.val rfl (op_len rfl rfl ln37) ?_
  refine L.val rfl (op_move rfl rfl) ?_
  refine L.nil ?_
  refine thenF_nor ?_
  refine W.block ?_
  have S2_hR_l := hR_l
  have S2_hB1 := hB1
  have S2_hE := hE
  have hS2 : Ext w1 w1 := Ext.refl _
  refine W.loopg (γ := Nat) (fun (k : Nat) (f : Fr) (ww : World) => k ≤ l.length ∧ (l.drop k).any (fun o : Oc => decide (o.value = v)) = l.any (fun o : Oc => decide (o.value = v)) ∧ f 3 = (.pointer (some ⟨b1, 0, none⟩)) ∧ f 7 = (.slice A_l l.length c_l) ∧ f 8 = (.int .i64 (l.length : Int)) ∧ f 9 = (.int .i64 ((k : Nat) : Int)) ∧ Ext w1 ww) (fun (k : Nat) => l.length - k) 0 ⟨(by (try dsimp only); omega), rfl, rfl, rfl, rfl, rfl, hS2⟩ ?_
  rintro k f3 w3 ⟨hk, hany, s3_3, s3_7, s3_8, s3_9, hS2⟩
  have hR_l := S2_hR_l.ext hS2
  have hB1 := S2_hB1.ext hS2
  have hE := S2_hE.trans hS2
  refine W.seq ?_
  refine W.region (by rfl) ?_
  refine L.val rfl (op_lss rfl s3_9 s3_8) ?_
  refine L.nil ?_
  refine thenF_nor ?_
  refine W.seq ?_
  refine W.cond (t := decide (((k : Nat) : Int) < (l.length : Int))) rfl (fun hc4 => ?_) (fun hc4 => ?_)
  · have hp4 := hc4
    simp only [Bool.and_eq_true, Bool.or_eq_true, Bool.and_eq_false_iff, Bool.or_eq_false_iff, Bool.not_eq_true', Bool.not_eq_false', decide_eq_true_eq, decide_eq_false_iff_not] at hp4
    refine W.skip ?_
    refine thenF_nor ?_
    refine W.seq ?_
    refine W.block ?_
    refine W.seq ?_
    refine W.region (by rfl) ?_
    refine L.val rfl (op_index (k := k) rfl s3_7 s3_9 sl37 (hR_l.getA (get_bang (l := l) (k := k) (by omega))).1 rfl (by omega) rfl) ?_
    refine L.val rfl (op_load (v := (l[k]! : Oc)) rfl rfl ty49 (hR_l.getA (get_bang (l := l) (k := k) (by omega))).2) ?_
    refine L.newvar (v := (Enc.val (l[k]! : Oc))) (cs := (Enc.cells (l[k]! : Oc))) rfl rfl rfl rfl rfl rfl (fun _ => rfl) rfl si49 zs49 (Enc.one _) ?_
    intro b5 w5 hb5 hB5 hx5
    have hbb5_hE := Nat.le_trans hE.size hb5
    have hbb5_hS2 := Nat.le_trans hS2.size hb5
    have hE := hE.trans hx5
    have hS2 := hS2.trans hx5
    have hR_l := hR_l.ext hx5
    have hB1 := hB1.ext hx5
    refine L.nil ?_
    refine thenF_nor ?_
    refine W.seq ?_
    refine W.region (by rfl) ?_
    refine L.val rfl (op_field rfl rfl fo49_3 rfl) ?_
    refine L.val rfl (op_load (v := ((l[k]!).value : Nm)) rfl rfl ty24 (sub_nm 3 hB5.cells rfl)) ?_
    refine L.val rfl (op_load (v := (v : Nm)) rfl s3_3 ty24 hB1.cells) ?_
    refine L.val rfl (op_eqle (a := ((l[k]!).value : Nm)) (b := (v : Nm)) rfl rfl rfl eq24 (fun _ => ⟨_, rfl⟩) Try.eqGuardType24) ?_
    refine L.nil ?_
    refine thenF_nor ?_
    refine W.cond (t := decide ((l[k]!).value = v)) rfl (fun hc6 => ?_) (fun hc6 => ?_)
    · have hp6 := hc6
      simp only [Bool.and_eq_true, Bool.or_eq_true, Bool.and_eq_false_iff, Bool.or_eq_false_iff, Bool.not_eq_true', Bool.not_eq_false', decide_eq_true_eq, decide_eq_false_iff_not] at hp6
      have hyes := hc6
      have hres := any_yes (l := l) (k := k) (p := fun o : Oc => decide (o.value = v)) hany (by omega) hyes
      refine W.seq ?_
      refine W.region (by rfl) ?_
      refine L.val (v := (.bool true)) rfl (op_assign rfl rfl) ?_
      refine L.nil ?_
      refine thenF_nor ?_
      refine W.ret ?_
      refine blockF_ret ?_
      refine thenF_ret ?_
      refine thenF_ret ?_
      refine blockF_ret ?_
      refine thenF_ret ?_
      exact end_ret1 (v := (.bool true)) rfl rfl ⟨(by unfold has17_f; rw [← hres]), hE⟩
    · have hp6 := hc6
      simp only [Bool.and_eq_true, Bool.or_eq_true, Bool.and_eq_false_iff, Bool.or_eq_false_iff, Bool.not_eq_true', Bool.not_eq_false', decide_eq_true_eq, decide_eq_false_iff_not] at hp6
      have hno := hc6
      refine W.skip ?_
      refine blockF_nor ?_
      refine thenF_nor ?_
      refine W.region (by rfl) ?_
      refine L.val rfl (op_add (c := ((k + 1 : Nat) : Int)) rfl s3_9 rfl (by omega) (by omega)) ?_
      refine L.val rfl (op_move rfl rfl) ?_
      refine L.nil ?_
      refine thenF_nor ?_
      exact ⟨k + 1, ⟨(by (try dsimp only); omega), (any_go hany (by omega) hno), s3_3, s3_7, s3_8, rfl, hS2⟩, (by (try dsimp only); omega)⟩
  · have hp4 := hc4
    simp only [Bool.and_eq_true, Bool.or_eq_true, Bool.and_eq_false_iff, Bool.or_eq_false_iff, Bool.not_eq_true', Bool.not_eq_false', decide_eq_true_eq, decide_eq_false_iff_not] at hp4
    have hres := any_end (l := l) (k := k) (p := fun o : Oc => decide (o.value = v)) hany (by omega)
    refine W.exit ?_
    refine thenF_exit ?_
    refine thenF_exit ?_
    refine blockF_hit ?_
    refine thenF_nor ?_
    refine W.seq ?_
    refine W.region (by rfl) ?_
    refine L.val (v := (.bool false)) rfl (op_assign rfl rfl) ?_
    refine L.nil ?_
    refine thenF_nor ?_
    refine W.ret ?_
    exact end_ret1 (v := (.bool false)) rfl rfl ⟨(by unfold has17_f; rw [← hres]), hE⟩

set_option maxRecDepth 100000 in
set_option maxHeartbeats 4000000 in
theorem Certified17_ok {m : Int} {parent : Nm} {A_l : Option Addr} {c_l lo_l hi_l : Nat} {l : List Vt} {A_slots : Option Addr} {c_slots lo_slots hi_slots : Nat} {slots : List Ch}  {w : World} (hR_l : Rd w lo_l hi_l A_l l) (hR_slots : Rd w lo_slots hi_slots A_slots slots) (hl : l.length ≤ 1000000) : Gives Try.prog 41 #[(.int .i64 m), (Enc.val (parent : Nm)), (.slice A_l l.length c_l), (.slice A_slots slots.length c_slots)] w fun u w' => u = (.bool (certified17_f m parent l slots)) ∧ Ext w w' := by
  have hE : Ext w w := Ext.refl w
  have hlen_l := hR_l.len
  have hlen_slots := hR_slots.len
  refine gives_of_W Try.func41 rfl Try.ntmps41 rfl ?_
  have hsi := size_ids m
  refine W.seq ?_
  refine W.region (by rfl) ?_
  refine L.step rfl (op_box (cs := (Enc.cells (parent : Nm))) rfl rfl rfl) ?_
  rintro _ w1 ⟨b1, rfl, hb1, hB1, hx1⟩
  have hE := hE.trans hx1
  have hR_l := hR_l.ext hx1
  have hR_slots := hR_slots.ext hx1
  refine L.val (v := (.bool false)) rfl (op_assign rfl rfl) ?_
  refine L.nil ?_
  refine thenF_nor ?_
  refine W.seq ?_
  refine W.seq ?_
  refine W.region (by rfl) ?_
  refine L.val rfl (op_move rfl rfl) ?_
  refine L.call (v := (.int .i64 (size_f m))) rfl (OpS.call (op_call rfl (argsC rfl argsN) Try.func29 rfl rfl) Size_ok) ?_
  intro w2 hx2
  have hE := hE.trans hx2
  have hR_l := hR_l.ext hx2
  have hR_slots := hR_slots.ext hx2
  have hB1 := hB1.ext hx2
  refine L.val rfl (op_move rfl rfl) ?_
  refine L.val rfl (op_len rfl rfl ln51) ?_
  refine L.val rfl (op_neq rfl rfl rfl) ?_
  refine L.val rfl (op_move rfl rfl) ?_
  refine L.guardv (v := (.slice A_slots slots.length c_slots)) (wanted_no rfl rfl rfl) (fun hg => (op_move rfl rfl)) ?_
  refine L.guardv (v := (.int .i64 (slots.length : Int))) (wanted_no rfl rfl rfl) (fun hg => (op_len rfl ((show _ = vif _ (.slice A_slots slots.length c_slots) from rfl).trans (vif_t hg).symm) ln51)) ?_
  refine L.guardv (v := (.bool (decide ((slots.length : Int) = 0)))) (wanted_no rfl rfl rfl) (fun hg => (op_eql rfl ((show _ = vif _ (.int .i64 (slots.length : Int)) from rfl).trans (vif_t hg).symm) rfl)) ?_
  refine L.val rfl (op_or rfl rfl rfl rfl) ?_
  refine L.nil ?_
  refine thenF_nor ?_
  refine W.cond (t := (!decide ((size_f m) = (slots.length : Int))) || (decide ((slots.length : Int) = 0))) rfl (fun hc3 => ?_) (fun hc3 => ?_)
  · have hp3 := hc3
    simp only [Bool.and_eq_true, Bool.or_eq_true, Bool.and_eq_false_iff, Bool.or_eq_false_iff, Bool.not_eq_true', Bool.not_eq_false', decide_eq_true_eq, decide_eq_false_iff_not] at hp3
    have hres : certified17_f m parent l slots = false := by unfold certified17_f; rw [hc3]; rfl
    refine W.seq ?_
    refine W.region (by rfl) ?_
    refine L.val (v := (.bool false)) rfl (op_assign rfl rfl) ?_
    refine L.nil ?_
    refine thenF_nor ?_
    refine W.ret ?_
    refine thenF_ret ?_
    exact end_ret1 (v := (.bool false)) rfl rfl ⟨(by rw [hres]), hE⟩
  · have hp3 := hc3
    simp only [Bool.and_eq_true, Bool.or_eq_true, Bool.and_eq_false_iff, Bool.or_eq_false_iff, Bool.not_eq_true', Bool.not_eq_false', decide_eq_true_eq, decide_eq_false_iff_not] at hp3
    have hcc := hc3
    simp only [Bool.or_eq_false_iff, Bool.not_eq_false', decide_eq_true_eq, decide_eq_false_iff_not] at hcc
    have hzl : ((ids_f m).zip slots).length = (ids_f m).length := (by rw [List.length_zip]; omega)
    have hgo : certified17_f m parent l slots = ((ids_f m).zip slots).all (cert1 m parent l) := by unfold certified17_f; rw [hc3]; rfl
    refine W.skip ?_
    refine thenF_nor ?_
    refine W.seq ?_
    refine W.seq ?_
    refine W.region (by rfl) ?_
    refine L.val rfl (op_move rfl rfl) ?_
    refine L.step rfl (OpS.call (op_call rfl (argsC rfl argsN) Try.func44 rfl rfl) IDs_ok) ?_
    rintro _ w4 ⟨⟨A4, c4, lo4, hi4, rfl, hcap4, hR4⟩, hx4⟩
    have hE := hE.trans hx4
    have hR_l := hR_l.ext hx4
    have hR_slots := hR_slots.ext hx4
    have hB1 := hB1.ext hx4
    have hlen4 := hR4.len
    refine L.val rfl (op_len rfl rfl ln57) ?_
    refine L.val rfl (op_move rfl rfl) ?_
    refine L.nil ?_
    refine thenF_nor ?_
    refine W.block ?_
    have S5_hR_l := hR_l
    have S5_hR_slots := hR_slots
    have S5_hB1 := hB1
    have S5_hR4 := hR4
    have S5_hE := hE
    have hS5 : Ext w4 w4 := Ext.refl _
    refine W.loopg (γ := Nat) (fun (k : Nat) (f : Fr) (ww : World) => k ≤ (ids_f m).length ∧ (((ids_f m).zip slots).drop k).all (cert1 m parent l) = ((ids_f m).zip slots).all (cert1 m parent l) ∧ f 0 = (.int .i64 m) ∧ f 2 = (.slice A_l l.length c_l) ∧ f 3 = (.slice A_slots slots.length c_slots) ∧ f 5 = (.pointer (some ⟨b1, 0, none⟩)) ∧ f 22 = (.slice A4 (ids_f m).length c4) ∧ f 23 = (.int .i64 ((ids_f m).length : Int)) ∧ f 24 = (.int .i64 ((k : Nat) : Int)) ∧ Ext w4 ww) (fun (k : Nat) => (ids_f m).length - k) 0 ⟨(by (try dsimp only); omega), rfl, rfl, rfl, rfl, rfl, rfl, rfl, rfl, hS5⟩ ?_
    rintro k f6 w6 ⟨hk, hall, s6_0, s6_2, s6_3, s6_5, s6_22, s6_23, s6_24, hS5⟩
    have hR_l := S5_hR_l.ext hS5
    have hR_slots := S5_hR_slots.ext hS5
    have hB1 := S5_hB1.ext hS5
    have hR4 := S5_hR4.ext hS5
    have hE := S5_hE.trans hS5
    refine W.seq ?_
    refine W.region (by rfl) ?_
    refine L.val rfl (op_lss rfl s6_24 s6_23) ?_
    refine L.nil ?_
    refine thenF_nor ?_
    refine W.seq ?_
    refine W.cond (t := decide (((k : Nat) : Int) < ((ids_f m).length : Int))) rfl (fun hc7 => ?_) (fun hc7 => ?_)
    · have hp7 := hc7
      simp only [Bool.and_eq_true, Bool.or_eq_true, Bool.and_eq_false_iff, Bool.or_eq_false_iff, Bool.not_eq_true', Bool.not_eq_false', decide_eq_true_eq, decide_eq_false_iff_not] at hp7
      refine W.skip ?_
      refine thenF_nor ?_
      refine W.seq ?_
      refine W.block ?_
      refine W.seq ?_
      refine W.region (by rfl) ?_
      refine L.val rfl (op_move rfl s6_24) ?_
      refine L.val rfl (op_index (k := k) rfl s6_22 s6_24 sl57 (hR4.getA (get_bang (l := ids_f m) (k := k) (by omega))).1 rfl (by omega) rfl) ?_
      refine L.val rfl (op_load1 rfl rfl one3 ((hR4.getA (get_bang (l := ids_f m) (k := k) (by omega))).2.one (n := 0) rfl)) ?_
      refine L.val rfl (op_assign rfl rfl) ?_
      refine L.val rfl (op_assign rfl rfl) ?_
      refine L.nil ?_
      refine thenF_nor ?_
      refine W.seq ?_
      refine W.drawS [Sp.eq (.slice A_slots slots.length c_slots), Sp.eq (.int .i64 ((k : Nat) : Int)), Sp.eq (.pointer (some ((adr A_slots).add (k * 9)))), Sp.eq (.pointer (some ((adr A_slots).add (k * 9)))), Sp.eq (.int .i64 ((slots[k]!).validator)), Sp.eq (.int .i64 ((ids_f m)[k]!)), Sp.eq (.bool (!decide (((slots[k]!).validator) = ((ids_f m)[k]!)))), Sp.eq (.bool (!decide (((slots[k]!).validator) = ((ids_f m)[k]!)))), Sp.eq (vif (!(!decide (((slots[k]!).validator) = ((ids_f m)[k]!)))) (.int .i64 m)), Sp.eq (vif (!(!decide (((slots[k]!).validator) = ((ids_f m)[k]!)))) (Enc.val (parent : Nm))), Sp.eq (vif (!(!decide (((slots[k]!).validator) = ((ids_f m)[k]!)))) (.slice A_l l.length c_l)), Sp.eq (vif (!(!decide (((slots[k]!).validator) = ((ids_f m)[k]!)))) (.int .i64 ((ids_f m)[k]!))), Sp.gsl (!(!decide (((slots[k]!).validator) = ((ids_f m)[k]!)))) (outcomes_f m parent l ((ids_f m)[k]!) : List Oc), Sp.eq (vif (!(!decide (((slots[k]!).validator) = ((ids_f m)[k]!)))) (.slice A_slots slots.length c_slots)), Sp.eq (vif (!(!decide (((slots[k]!).validator) = ((ids_f m)[k]!)))) (.int .i64 ((k : Nat) : Int))), Sp.eq (vif (!(!decide (((slots[k]!).validator) = ((ids_f m)[k]!)))) (.pointer (some ((adr A_slots).add (k * 9))))), Sp.eq (vif (!(!decide (((slots[k]!).validator) = ((ids_f m)[k]!)))) (.pointer (some (((adr A_slots).add (k * 9)).add 1)))), Sp.eq (vif (!(!decide (((slots[k]!).validator) = ((ids_f m)[k]!)))) (Enc.val ((slots[k]!).value))), Sp.eq (vif (!(!decide (((slots[k]!).validator) = ((ids_f m)[k]!)))) (.bool (has17_f (outcomes_f m parent l ((ids_f m)[k]!)) ((slots[k]!).value)))), Sp.eq (vif (!(!decide (((slots[k]!).validator) = ((ids_f m)[k]!)))) (.bool (!(has17_f (outcomes_f m parent l ((ids_f m)[k]!)) ((slots[k]!).value))))), Sp.eq (.bool ((!decide (((slots[k]!).validator) = ((ids_f m)[k]!))) || (!(has17_f (outcomes_f m parent l ((ids_f m)[k]!)) ((slots[k]!).value)))))] mixed (by rfl) (Obls.cons ?_ (Obls.cons ?_ (Obls.cons ?_ (Obls.cons ?_ (Obls.cons ?_ (Obls.cons ?_ (Obls.cons ?_ (Obls.cons ?_ (Obls.cons ?_ (Obls.cons ?_ (Obls.cons ?_ (Obls.cons ?_ (Obls.cons ?_ (Obls.cons ?_ (Obls.cons ?_ (Obls.cons ?_ (Obls.cons ?_ (Obls.cons ?_ (Obls.cons ?_ (Obls.cons ?_ (Obls.cons ?_ Obls.nil))))))))))))))))))))) ?_
      · intro f9 w9 hx9 ho9 hd9
        have d9_s3 : f9 3 = (.slice A_slots slots.length c_slots) := (ho9 3 rfl).trans s6_3
        exact D.val rfl (op_move rfl d9_s3)
      · intro f10 w10 hx10 ho10 hd10
        have d10_s9 : f10 9 = (.int .i64 ((k : Nat) : Int)) := ho10 9 rfl
        exact D.val rfl (op_move rfl d10_s9)
      · intro f11 w11 hx11 ho11 hd11
        have d11_0 : f11 29 = (.slice A_slots slots.length c_slots) := hd11 0 rfl
        have d11_1 : f11 30 = (.int .i64 ((k : Nat) : Int)) := hd11 1 rfl
        have hR_l := hR_l.ext hx11
        have hR_slots := hR_slots.ext hx11
        have hB1 := hB1.ext hx11
        have hR4 := hR4.ext hx11
        skip
        exact D.val rfl (op_index (k := k) rfl d11_0 d11_1 sl51 (hR_slots.getA (get_bang (l := slots) (k := k) (by omega))).1 rfl (by omega) rfl)
      · intro f12 w12 hx12 ho12 hd12
        have d12_2 : f12 31 = (.pointer (some ((adr A_slots).add (k * 9)))) := hd12 2 rfl
        exact D.val rfl (op_field rfl d12_2 fo82_0 rfl)
      · intro f13 w13 hx13 ho13 hd13
        have d13_3 : f13 32 = (.pointer (some ((adr A_slots).add (k * 9)))) := hd13 3 rfl
        have hR_l := hR_l.ext hx13
        have hR_slots := hR_slots.ext hx13
        have hB1 := hB1.ext hx13
        have hR4 := hR4.ext hx13
        skip
        exact D.val rfl (op_load1 rfl d13_3 one3 ((hR_slots.getA (get_bang (l := slots) (k := k) (by omega))).2.one (n := 0) rfl))
      · intro f14 w14 hx14 ho14 hd14
        have d14_s10 : f14 10 = (.int .i64 ((ids_f m)[k]!)) := ho14 10 rfl
        exact D.val rfl (op_move rfl d14_s10)
      · intro f15 w15 hx15 ho15 hd15
        have d15_4 : f15 33 = (.int .i64 ((slots[k]!).validator)) := hd15 4 rfl
        have d15_5 : f15 34 = (.int .i64 ((ids_f m)[k]!)) := hd15 5 rfl
        exact D.val rfl (op_neq rfl d15_4 d15_5)
      · intro f16 w16 hx16 ho16 hd16
        have d16_6 : f16 35 = (.bool (!decide (((slots[k]!).validator) = ((ids_f m)[k]!)))) := hd16 6 rfl
        exact D.val rfl (op_move rfl d16_6)
      · intro f17 w17 hx17 ho17 hd17
        have d17_s0 : f17 0 = (.int .i64 m) := (ho17 0 rfl).trans s6_0
        have d17_7 : f17 36 = (.bool (!decide (((slots[k]!).validator) = ((ids_f m)[k]!)))) := hd17 7 rfl
        exact D.guardv (wanted_no rfl rfl d17_7) (fun hg => (op_move rfl d17_s0))
      · intro f18 w18 hx18 ho18 hd18
        have d18_s5 : f18 5 = (.pointer (some ⟨b1, 0, none⟩)) := (ho18 5 rfl).trans s6_5
        have d18_7 : f18 36 = (.bool (!decide (((slots[k]!).validator) = ((ids_f m)[k]!)))) := hd18 7 rfl
        have hR_l := hR_l.ext hx18
        have hR_slots := hR_slots.ext hx18
        have hB1 := hB1.ext hx18
        have hR4 := hR4.ext hx18
        exact D.guardv (wanted_no rfl rfl d18_7) (fun hg => (op_load (v := (parent : Nm)) rfl d18_s5 ty24 hB1.cells))
      · intro f19 w19 hx19 ho19 hd19
        have d19_s2 : f19 2 = (.slice A_l l.length c_l) := (ho19 2 rfl).trans s6_2
        have d19_7 : f19 36 = (.bool (!decide (((slots[k]!).validator) = ((ids_f m)[k]!)))) := hd19 7 rfl
        exact D.guardv (wanted_no rfl rfl d19_7) (fun hg => (op_move rfl d19_s2))
      · intro f20 w20 hx20 ho20 hd20
        have d20_s10 : f20 10 = (.int .i64 ((ids_f m)[k]!)) := ho20 10 rfl
        have d20_7 : f20 36 = (.bool (!decide (((slots[k]!).validator) = ((ids_f m)[k]!)))) := hd20 7 rfl
        exact D.guardv (wanted_no rfl rfl d20_7) (fun hg => (op_move rfl d20_s10))
      · intro f21 w21 hx21 ho21 hd21
        have d21_7 : f21 36 = (.bool (!decide (((slots[k]!).validator) = ((ids_f m)[k]!)))) := hd21 7 rfl
        have d21_8 : f21 37 = (vif (!(!decide (((slots[k]!).validator) = ((ids_f m)[k]!)))) (.int .i64 m)) := hd21 8 rfl
        have d21_9 : f21 38 = (vif (!(!decide (((slots[k]!).validator) = ((ids_f m)[k]!)))) (Enc.val (parent : Nm))) := hd21 9 rfl
        have d21_10 : f21 39 = (vif (!(!decide (((slots[k]!).validator) = ((ids_f m)[k]!)))) (.slice A_l l.length c_l)) := hd21 10 rfl
        have d21_11 : f21 40 = (vif (!(!decide (((slots[k]!).validator) = ((ids_f m)[k]!)))) (.int .i64 ((ids_f m)[k]!))) := hd21 11 rfl
        have hR_l := hR_l.ext hx21
        have hR_slots := hR_slots.ext hx21
        have hB1 := hB1.ext hx21
        have hR4 := hR4.ext hx21
        exact D.guardsl (l := (outcomes_f m parent l ((ids_f m)[k]!) : List Oc)) (wanted_no rfl rfl d21_7) (fun hg => by have hp := hg; simp only [Bool.and_eq_true, Bool.or_eq_true, Bool.not_eq_true', decide_eq_true_eq, decide_eq_false_iff_not, bne_iff_ne, beq_iff_eq] at hp; exact (OpS.call (op_call rfl (argsC ((show _ = vif _ (.int .i64 m) from d21_8).trans (vif_t hg).symm) (argsC ((show _ = vif _ (Enc.val (parent : Nm)) from d21_9).trans (vif_t hg).symm) (argsC ((show _ = vif _ (.slice A_l l.length c_l) from d21_10).trans (vif_t hg).symm) (argsC ((show _ = vif _ (.int .i64 ((ids_f m)[k]!)) from d21_11).trans (vif_t hg).symm) argsN)))) Try.func26 rfl rfl) (Outcomes_ok hR_l (by first | omega | (simp only [List.length_drop, List.length_take, List.length_append, List.length_cons, List.length_nil] at *; omega)))))
      · intro f22 w22 hx22 ho22 hd22
        have d22_s3 : f22 3 = (.slice A_slots slots.length c_slots) := (ho22 3 rfl).trans s6_3
        have d22_7 : f22 36 = (.bool (!decide (((slots[k]!).validator) = ((ids_f m)[k]!)))) := hd22 7 rfl
        exact D.guardv (wanted_no rfl rfl d22_7) (fun hg => (op_move rfl d22_s3))
      · intro f23 w23 hx23 ho23 hd23
        have d23_s9 : f23 9 = (.int .i64 ((k : Nat) : Int)) := ho23 9 rfl
        have d23_7 : f23 36 = (.bool (!decide (((slots[k]!).validator) = ((ids_f m)[k]!)))) := hd23 7 rfl
        exact D.guardv (wanted_no rfl rfl d23_7) (fun hg => (op_move rfl d23_s9))
      · intro f24 w24 hx24 ho24 hd24
        have d24_7 : f24 36 = (.bool (!decide (((slots[k]!).validator) = ((ids_f m)[k]!)))) := hd24 7 rfl
        have d24_13 : f24 42 = (vif (!(!decide (((slots[k]!).validator) = ((ids_f m)[k]!)))) (.slice A_slots slots.length c_slots)) := hd24 13 rfl
        have d24_14 : f24 43 = (vif (!(!decide (((slots[k]!).validator) = ((ids_f m)[k]!)))) (.int .i64 ((k : Nat) : Int))) := hd24 14 rfl
        have hR_l := hR_l.ext hx24
        have hR_slots := hR_slots.ext hx24
        have hB1 := hB1.ext hx24
        have hR4 := hR4.ext hx24
        exact D.guardv (wanted_no rfl rfl d24_7) (fun hg => by have hp := hg; simp only [Bool.and_eq_true, Bool.or_eq_true, Bool.not_eq_true', decide_eq_true_eq, decide_eq_false_iff_not, bne_iff_ne, beq_iff_eq] at hp; skip; exact (op_index (k := k) rfl ((show _ = vif _ (.slice A_slots slots.length c_slots) from d24_13).trans (vif_t hg).symm) ((show _ = vif _ (.int .i64 ((k : Nat) : Int)) from d24_14).trans (vif_t hg).symm) sl51 (hR_slots.getA (get_bang (l := slots) (k := k) (by omega))).1 rfl (by omega) rfl))
      · intro f25 w25 hx25 ho25 hd25
        have d25_7 : f25 36 = (.bool (!decide (((slots[k]!).validator) = ((ids_f m)[k]!)))) := hd25 7 rfl
        have d25_15 : f25 44 = (vif (!(!decide (((slots[k]!).validator) = ((ids_f m)[k]!)))) (.pointer (some ((adr A_slots).add (k * 9))))) := hd25 15 rfl
        exact D.guardv (wanted_no rfl rfl d25_7) (fun hg => (op_field rfl ((show _ = vif _ (.pointer (some ((adr A_slots).add (k * 9)))) from d25_15).trans (vif_t hg).symm) fo82_1 rfl))
      · intro f26 w26 hx26 ho26 hd26
        have d26_7 : f26 36 = (.bool (!decide (((slots[k]!).validator) = ((ids_f m)[k]!)))) := hd26 7 rfl
        have d26_16 : f26 45 = (vif (!(!decide (((slots[k]!).validator) = ((ids_f m)[k]!)))) (.pointer (some (((adr A_slots).add (k * 9)).add 1)))) := hd26 16 rfl
        have hR_l := hR_l.ext hx26
        have hR_slots := hR_slots.ext hx26
        have hB1 := hB1.ext hx26
        have hR4 := hR4.ext hx26
        exact D.guardv (wanted_no rfl rfl d26_7) (fun hg => by have hp := hg; simp only [Bool.and_eq_true, Bool.or_eq_true, Bool.not_eq_true', decide_eq_true_eq, decide_eq_false_iff_not, bne_iff_ne, beq_iff_eq] at hp; skip; exact (op_load (v := ((slots[k]!).value : Nm)) rfl ((show _ = vif _ (.pointer (some (((adr A_slots).add (k * 9)).add 1))) from d26_16).trans (vif_t hg).symm) ty24 (sub_nm 1 (hR_slots.getA (get_bang (l := slots) (k := k) (by omega))).2 rfl)))
      · intro f27 w27 hx27 ho27 hd27
        have d27_7 : f27 36 = (.bool (!decide (((slots[k]!).validator) = ((ids_f m)[k]!)))) := hd27 7 rfl
        have d27_17 : f27 46 = (vif (!(!decide (((slots[k]!).validator) = ((ids_f m)[k]!)))) (Enc.val ((slots[k]!).value))) := hd27 17 rfl
        have hR_l := hR_l.ext hx27
        have hR_slots := hR_slots.ext hx27
        have hB1 := hB1.ext hx27
        have hR4 := hR4.ext hx27
        exact D.guardc (wanted_no rfl rfl d27_7) (fun hg => by have hp := hg; simp only [Bool.and_eq_true, Bool.or_eq_true, Bool.not_eq_true', decide_eq_true_eq, decide_eq_false_iff_not, bne_iff_ne, beq_iff_eq] at hp; obtain ⟨A27_12, c27_12, lo27_12, hi27_12, e27_12, hcap27_12, hR27_12⟩ := (hd27 12 rfl).1 hg; have hlen27_12 := hR27_12.len; exact (OpS.call (op_call rfl (argsC e27_12 (argsC ((show _ = vif _ (Enc.val ((slots[k]!).value)) from d27_17).trans (vif_t hg).symm) argsN)) Try.func68 rfl rfl) (has17_ok hR27_12)))
      · intro f28 w28 hx28 ho28 hd28
        have d28_7 : f28 36 = (.bool (!decide (((slots[k]!).validator) = ((ids_f m)[k]!)))) := hd28 7 rfl
        have d28_18 : f28 47 = (vif (!(!decide (((slots[k]!).validator) = ((ids_f m)[k]!)))) (.bool (has17_f (outcomes_f m parent l ((ids_f m)[k]!)) ((slots[k]!).value)))) := hd28 18 rfl
        exact D.guardv (wanted_no rfl rfl d28_7) (fun hg => (op_not rfl ((show _ = vif _ (.bool (has17_f (outcomes_f m parent l ((ids_f m)[k]!)) ((slots[k]!).value))) from d28_18).trans (vif_t hg).symm)))
      · intro f29 w29 hx29 ho29 hd29
        have d29_7 : f29 36 = (.bool (!decide (((slots[k]!).validator) = ((ids_f m)[k]!)))) := hd29 7 rfl
        have d29_19 : f29 48 = (vif (!(!decide (((slots[k]!).validator) = ((ids_f m)[k]!)))) (.bool (!(has17_f (outcomes_f m parent l ((ids_f m)[k]!)) ((slots[k]!).value))))) := hd29 19 rfl
        exact D.val rfl (op_or rfl d29_7 rfl d29_19)
      intro f30 w30 hx30 ho30 hr30
      have s0 : f30 0 = (.int .i64 m) := (ho30 0 rfl).trans s6_0
      have s2 : f30 2 = (.slice A_l l.length c_l) := (ho30 2 rfl).trans s6_2
      have s3 : f30 3 = (.slice A_slots slots.length c_slots) := (ho30 3 rfl).trans s6_3
      have s5 : f30 5 = (.pointer (some ⟨b1, 0, none⟩)) := (ho30 5 rfl).trans s6_5
      have s9 : f30 9 = (.int .i64 ((k : Nat) : Int)) := ho30 9 rfl
      have s10 : f30 10 = (.int .i64 ((ids_f m)[k]!)) := ho30 10 rfl
      have s22 : f30 22 = (.slice A4 (ids_f m).length c4) := (ho30 22 rfl).trans s6_22
      have s23 : f30 23 = (.int .i64 ((ids_f m).length : Int)) := (ho30 23 rfl).trans s6_23
      have s24 : f30 24 = (.int .i64 ((k : Nat) : Int)) := (ho30 24 rfl).trans s6_24
      have s25 : f30 25 = (.bool (decide (((k : Nat) : Int) < ((ids_f m).length : Int)))) := ho30 25 rfl
      have s49 : f30 49 = (.bool ((!decide (((slots[k]!).validator) = ((ids_f m)[k]!))) || (!(has17_f (outcomes_f m parent l ((ids_f m)[k]!)) ((slots[k]!).value))))) := hr30 20 (by decide)
      have hE := hE.trans hx30
      have hS5 := hS5.trans hx30
      have hR_l := hR_l.ext hx30
      have hR_slots := hR_slots.ext hx30
      have hB1 := hB1.ext hx30
      have hR4 := hR4.ext hx30
      refine thenF_nor ?_
      refine W.cond (t := (!decide (((slots[k]!).validator) = ((ids_f m)[k]!))) || (!(has17_f (outcomes_f m parent l ((ids_f m)[k]!)) ((slots[k]!).value)))) s49 (fun hc31 => ?_) (fun hc31 => ?_)
      · have hp31 := hc31
        simp only [Bool.and_eq_true, Bool.or_eq_true, Bool.and_eq_false_iff, Bool.or_eq_false_iff, Bool.not_eq_true', Bool.not_eq_false', decide_eq_true_eq, decide_eq_false_iff_not] at hp31
        have hno : (cert1 m parent l) ((ids_f m).zip slots)[k]! = false := (by rw [zip_bang (by omega) (by omega)]; unfold cert1; have h0 := hc31; revert h0; cases decide (slots[k]!.validator = (ids_f m)[k]!) <;> cases has17_f (outcomes_f m parent l (ids_f m)[k]!) slots[k]!.value <;> simp)
        have hres : certified17_f m parent l slots = false := hgo.trans (all_no hall (by omega) hno).symm
        refine W.seq ?_
        refine W.region (by rfl) ?_
        refine L.val (v := (.bool false)) rfl (op_assign rfl rfl) ?_
        refine L.nil ?_
        refine thenF_nor ?_
        refine W.ret ?_
        refine blockF_ret ?_
        refine thenF_ret ?_
        refine thenF_ret ?_
        refine blockF_ret ?_
        refine thenF_ret ?_
        exact end_ret1 (v := (.bool false)) rfl rfl ⟨(by rw [hres]), hE⟩
      · have hp31 := hc31
        simp only [Bool.and_eq_true, Bool.or_eq_true, Bool.and_eq_false_iff, Bool.or_eq_false_iff, Bool.not_eq_true', Bool.not_eq_false', decide_eq_true_eq, decide_eq_false_iff_not] at hp31
        have hyes : (cert1 m parent l) ((ids_f m).zip slots)[k]! = true := (by rw [zip_bang (by omega) (by omega)]; unfold cert1; have h0 := hc31; revert h0; cases decide (slots[k]!.validator = (ids_f m)[k]!) <;> cases has17_f (outcomes_f m parent l (ids_f m)[k]!) slots[k]!.value <;> simp)
        refine W.skip ?_
        refine blockF_nor ?_
        refine thenF_nor ?_
        refine W.region (by rfl) ?_
        refine L.val rfl (op_add (c := ((k + 1 : Nat) : Int)) rfl s24 rfl (by omega) (by omega)) ?_
        refine L.val rfl (op_move rfl rfl) ?_
        refine L.nil ?_
        refine thenF_nor ?_
        exact ⟨k + 1, ⟨(by (try dsimp only); omega), (all_go hall (by omega) hyes), s0, s2, s3, s5, s22, s23, rfl, hS5⟩, (by (try dsimp only); omega)⟩
    · have hp7 := hc7
      simp only [Bool.and_eq_true, Bool.or_eq_true, Bool.and_eq_false_iff, Bool.or_eq_false_iff, Bool.not_eq_true', Bool.not_eq_false', decide_eq_true_eq, decide_eq_false_iff_not] at hp7
      have hres : certified17_f m parent l slots = true := hgo.trans (all_end hall (by omega)).symm
      refine W.exit ?_
      refine thenF_exit ?_
      refine thenF_exit ?_
      refine blockF_hit ?_
      refine thenF_nor ?_
      refine W.seq ?_
      refine W.region (by rfl) ?_
      refine L.val (v := (.bool true)) rfl (op_assign rfl rfl) ?_
      refine L.nil ?_
      refine thenF_nor ?_
      refine W.ret ?_
      exact end_ret1 (v := (.bool true)) rfl rfl ⟨(by rw [hres]), hE⟩

set_option maxRecDepth 100000 in
theorem cut17_ok {A_l : Option Addr} {c_l lo_l hi_l : Nat} {l : List Vt}  {w : World} (hR_l : Rd w lo_l hi_l A_l l) (hcap_l : l.length ≤ c_l) : Gives Try.prog 39 #[(.slice A_l l.length c_l)] w fun u w' => SlR w' u (l.take 250 : List Vt) ∧ Ext w w' := by
  have hE : Ext w w := Ext.refl w
  have hlen_l := hR_l.len
  refine gives_of_W Try.func39 rfl Try.ntmps39 rfl ?_
  refine W.seq ?_
  refine W.region (by rfl) ?_
  refine L.val rfl (op_assign rfl rfl) ?_
  refine L.nil ?_
  refine thenF_nor ?_
  refine W.seq ?_
  refine W.seq ?_
  refine W.region (by rfl) ?_
  refine L.val rfl (op_move rfl rfl) ?_
  refine L.val rfl (op_len rfl rfl ln25) ?_
  refine L.val rfl (op_gtr rfl rfl rfl) ?_
  refine L.nil ?_
  refine thenF_nor ?_
  refine W.cond (t := decide (250 < (l.length : Int))) rfl (fun hc1 => ?_) (fun hc1 => ?_)
  · have hp1 := hc1
    simp only [Bool.and_eq_true, Bool.or_eq_true, Bool.and_eq_false_iff, Bool.or_eq_false_iff, Bool.not_eq_true', Bool.not_eq_false', decide_eq_true_eq, decide_eq_false_iff_not] at hp1
    refine W.seq ?_
    refine W.region (by rfl) ?_
    refine L.val rfl (op_move rfl rfl) ?_
    refine L.step rfl (op_slr_h (k := 250) sl25 rfl rfl rfl (by omega) hcap_l hR_l) ?_
    rintro _ w2 ⟨⟨A2, c2, lo2, hi2, rfl, hcap2, hR2⟩, hx2⟩
    have hE := hE.trans hx2
    have hR_l := hR_l.ext hx2
    have hlen2 := hR2.len
    refine L.val rfl (op_assign rfl rfl) ?_
    refine L.nil ?_
    refine thenF_nor ?_
    refine W.ret ?_
    refine thenF_ret ?_
    exact end_ret1 (v := (.slice A2 (l.take 250).length c2)) rfl rfl ⟨(⟨_, _, _, _, rfl, hcap2, hR2⟩ : SlR _ _ _), hE⟩
  · have hp1 := hc1
    simp only [Bool.and_eq_true, Bool.or_eq_true, Bool.and_eq_false_iff, Bool.or_eq_false_iff, Bool.not_eq_true', Bool.not_eq_false', decide_eq_true_eq, decide_eq_false_iff_not] at hp1
    refine W.skip ?_
    refine thenF_nor ?_
    refine W.seq ?_
    refine W.region (by rfl) ?_
    refine L.val rfl (op_move rfl rfl) ?_
    refine L.val rfl (op_assign rfl rfl) ?_
    refine L.nil ?_
    refine thenF_nor ?_
    refine W.ret ?_
    exact end_ret1 (v := (.slice A_l l.length c_l)) rfl rfl ⟨(by rw [List.take_of_length_le (by omega)]; exact (⟨_, _, _, _, rfl, hcap_l, hR_l⟩ : SlR _ _ _)), hE⟩

set_option maxRecDepth 100000 in
theorem awake17_ok   {w : World}  : Gives Try.prog 43 #[] w fun u w' => u = (.bool true) ∧ Ext w w' := by
  have hE : Ext w w := Ext.refl w
  refine gives_of_W Try.func43 rfl Try.ntmps43 rfl ?_
  refine W.seq ?_
  refine W.region (by rfl) ?_
  refine L.val (v := (.bool false)) rfl (op_assign rfl rfl) ?_
  refine L.nil ?_
  refine thenF_nor ?_
  refine W.seq ?_
  refine W.region (by rfl) ?_
  refine L.val rfl (op_build (v := Enc.val (⟨3, 0, 1, 0, 0, 0, Nm.zero, Nm.zero⟩ : Vt)) (cs := Enc.cells (⟨3, 0, 1, 0, 0, 0, Nm.zero, Nm.zero⟩ : Vt)) rfl (partsC rfl (partsC rfl partsN)) (by kernel_rfl) rfl) ?_
  refine L.val rfl (op_build (v := Enc.val (⟨4, 0, 1, 0, 0, 1, Nm.zero, Nm.zero⟩ : Vt)) (cs := Enc.cells (⟨4, 0, 1, 0, 0, 1, Nm.zero, Nm.zero⟩ : Vt)) rfl (partsC rfl (partsC rfl (partsC rfl partsN))) (by kernel_rfl) rfl) ?_
  refine L.step rfl (op_sliceL ([(⟨3, 0, 1, 0, 0, 0, Nm.zero, Nm.zero⟩ : Vt), (⟨4, 0, 1, 0, 0, 1, Nm.zero, Nm.zero⟩ : Vt)] : List Vt) rfl (partsC rfl (partsC rfl partsN)) sl25 zs28 rfl (by decide) (by decide)) ?_
  rintro _ w1 ⟨b1, rfl, hb1, hR1, hx1⟩
  have hE := hE.trans hx1
  have hlen1 := hR1.len
  refine L.val rfl (op_assign rfl rfl) ?_
  refine L.nil ?_
  refine thenF_nor ?_
  refine W.seq ?_
  refine W.region (by rfl) ?_
  refine L.val rfl (op_build (v := Enc.val (Nm.zero : Nm)) (cs := Enc.cells (Nm.zero : Nm)) rfl partsN (by kernel_rfl) rfl) ?_
  refine L.val rfl (op_move rfl rfl) ?_
  refine L.step rfl (OpS.call (op_call rfl (argsC rfl (argsC rfl (argsC rfl argsN))) Try.func40 rfl rfl) (Decide_ok hR1 (by first | omega | (simp only [List.length_drop, List.length_take, List.length_append, List.length_cons, List.length_nil] at *; omega)))) ?_
  rintro _ w2 ⟨⟨u2, rfl, A2, c2, lo2, hi2, rfl, hcap2, hR2⟩, hx2⟩
  have hE := hE.trans hx2
  have hR1 := hR1.ext hx2
  have hlen2 := hR2.len
  refine L.val rfl (op_move rfl rfl) ?_
  refine L.val rfl (op_extract rfl rfl rfl) ?_
  refine L.val rfl (op_extract rfl rfl rfl) ?_
  refine L.val rfl (op_assign rfl rfl) ?_
  refine L.val rfl (op_assign rfl rfl) ?_
  refine L.nil ?_
  refine thenF_nor ?_
  refine W.seq ?_
  refine W.region (by rfl) ?_
  refine L.val rfl (op_build (v := Enc.val (Nm.zero : Nm)) (cs := Enc.cells (Nm.zero : Nm)) rfl partsN (by kernel_rfl) rfl) ?_
  refine L.val rfl (op_move rfl rfl) ?_
  refine L.step rfl (op_slr_h (k := 1) sl25 rfl rfl rfl (by first | omega | (simp only [List.length_cons, List.length_nil]; omega)) (Nat.le_refl _) hR1) ?_
  rintro _ w3 ⟨⟨A3, c3, lo3, hi3, rfl, hcap3, hR3⟩, hx3⟩
  have hE := hE.trans hx3
  have hR1 := hR1.ext hx3
  have hR2 := hR2.ext hx3
  have hlen3 := hR3.len
  refine L.step rfl (OpS.call (op_call rfl (argsC rfl (argsC rfl (argsC rfl argsN))) Try.func40 rfl rfl) (Decide_ok hR3 (by first | omega | (simp only [List.length_drop, List.length_take, List.length_append, List.length_cons, List.length_nil] at *; omega)))) ?_
  rintro _ w4 ⟨⟨u4, rfl, A4, c4, lo4, hi4, rfl, hcap4, hR4⟩, hx4⟩
  have hE := hE.trans hx4
  have hR1 := hR1.ext hx4
  have hR2 := hR2.ext hx4
  have hR3 := hR3.ext hx4
  have hlen4 := hR4.len
  refine L.val rfl (op_move rfl rfl) ?_
  refine L.val rfl (op_extract rfl rfl rfl) ?_
  refine L.val rfl (op_extract rfl rfl rfl) ?_
  refine L.val rfl (op_assign rfl rfl) ?_
  refine L.val rfl (op_assign rfl rfl) ?_
  refine L.nil ?_
  refine thenF_nor ?_
  refine W.seq ?_
  refine W.region (by rfl) ?_
  refine L.val rfl (op_move rfl rfl) ?_
  refine L.val rfl (op_move rfl rfl) ?_
  refine L.guardv (v := (.bool ((decide17_f 1 Nm.zero (([(⟨3, 0, 1, 0, 0, 0, Nm.zero, Nm.zero⟩ : Vt), (⟨4, 0, 1, 0, 0, 1, Nm.zero, Nm.zero⟩ : Vt)] : List Vt).take 1)).2))) (wanted_yes rfl rfl rfl) (fun hg => (op_move rfl rfl)) ?_
  refine L.guardv (v := (.bool (!((decide17_f 1 Nm.zero (([(⟨3, 0, 1, 0, 0, 0, Nm.zero, Nm.zero⟩ : Vt), (⟨4, 0, 1, 0, 0, 1, Nm.zero, Nm.zero⟩ : Vt)] : List Vt).take 1)).2)))) (wanted_yes rfl rfl rfl) (fun hg => (op_not rfl ((show _ = vif _ (.bool ((decide17_f 1 Nm.zero (([(⟨3, 0, 1, 0, 0, 0, Nm.zero, Nm.zero⟩ : Vt), (⟨4, 0, 1, 0, 0, 1, Nm.zero, Nm.zero⟩ : Vt)] : List Vt).take 1)).2)) from rfl).trans (vif_t hg).symm))) ?_
  refine L.val rfl (op_and rfl rfl rfl rfl) ?_
  refine L.val rfl (op_move rfl rfl) ?_
  refine L.guardv (v := (.slice A2 ((decide17_f 1 Nm.zero ([(⟨3, 0, 1, 0, 0, 0, Nm.zero, Nm.zero⟩ : Vt), (⟨4, 0, 1, 0, 0, 1, Nm.zero, Nm.zero⟩ : Vt)] : List Vt)).1).length c2)) (wanted_yes rfl rfl rfl) (fun hg => (op_move rfl rfl)) ?_
  refine L.guardv (v := (.int .i64 (((decide17_f 1 Nm.zero ([(⟨3, 0, 1, 0, 0, 0, Nm.zero, Nm.zero⟩ : Vt), (⟨4, 0, 1, 0, 0, 1, Nm.zero, Nm.zero⟩ : Vt)] : List Vt)).1).length : Int))) (wanted_yes rfl rfl rfl) (fun hg => (op_len rfl ((show _ = vif _ (.slice A2 ((decide17_f 1 Nm.zero ([(⟨3, 0, 1, 0, 0, 0, Nm.zero, Nm.zero⟩ : Vt), (⟨4, 0, 1, 0, 0, 1, Nm.zero, Nm.zero⟩ : Vt)] : List Vt)).1).length c2) from rfl).trans (vif_t hg).symm) ln37)) ?_
  refine L.guardv (v := (.bool (decide ((((decide17_f 1 Nm.zero ([(⟨3, 0, 1, 0, 0, 0, Nm.zero, Nm.zero⟩ : Vt), (⟨4, 0, 1, 0, 0, 1, Nm.zero, Nm.zero⟩ : Vt)] : List Vt)).1).length : Int) = 1)))) (wanted_yes rfl rfl rfl) (fun hg => (op_eql rfl ((show _ = vif _ (.int .i64 (((decide17_f 1 Nm.zero ([(⟨3, 0, 1, 0, 0, 0, Nm.zero, Nm.zero⟩ : Vt), (⟨4, 0, 1, 0, 0, 1, Nm.zero, Nm.zero⟩ : Vt)] : List Vt)).1).length : Int)) from rfl).trans (vif_t hg).symm) rfl)) ?_
  refine L.val rfl (op_and rfl rfl rfl rfl) ?_
  refine L.val rfl (op_move rfl rfl) ?_
  refine L.guardv (v := (Enc.val (Nm.zero : Nm))) (wanted_yes rfl rfl rfl) (fun hg => (op_build (v := Enc.val (Nm.zero : Nm)) (cs := Enc.cells (Nm.zero : Nm)) rfl partsN (by kernel_rfl) rfl)) ?_
  refine L.guardv (v := (.slice (some ⟨b1, 0, none⟩) ([(⟨3, 0, 1, 0, 0, 0, Nm.zero, Nm.zero⟩ : Vt), (⟨4, 0, 1, 0, 0, 1, Nm.zero, Nm.zero⟩ : Vt)] : List Vt).length ([(⟨3, 0, 1, 0, 0, 0, Nm.zero, Nm.zero⟩ : Vt), (⟨4, 0, 1, 0, 0, 1, Nm.zero, Nm.zero⟩ : Vt)] : List Vt).length)) (wanted_yes rfl rfl rfl) (fun hg => (op_move rfl rfl)) ?_
  refine L.guardv (v := (Enc.val (⟨0, Nm.zero⟩ : Ch))) (wanted_yes rfl rfl rfl) (fun hg => (op_build (v := Enc.val (⟨0, Nm.zero⟩ : Ch)) (cs := Enc.cells (⟨0, Nm.zero⟩ : Ch)) rfl partsN (by kernel_rfl) rfl)) ?_
  rcases Bool.eq_false_or_eq_true ((((decide17_f 1 Nm.zero ([(⟨3, 0, 1, 0, 0, 0, Nm.zero, Nm.zero⟩ : Vt), (⟨4, 0, 1, 0, 0, 1, Nm.zero, Nm.zero⟩ : Vt)] : List Vt)).2) && (!((decide17_f 1 Nm.zero (([(⟨3, 0, 1, 0, 0, 0, Nm.zero, Nm.zero⟩ : Vt), (⟨4, 0, 1, 0, 0, 1, Nm.zero, Nm.zero⟩ : Vt)] : List Vt).take 1)).2))) && (decide ((((decide17_f 1 Nm.zero ([(⟨3, 0, 1, 0, 0, 0, Nm.zero, Nm.zero⟩ : Vt), (⟨4, 0, 1, 0, 0, 1, Nm.zero, Nm.zero⟩ : Vt)] : List Vt)).1).length : Int) = 1))) with hs5 | hs5
  · have hp5 := hs5
    simp only [Bool.and_eq_true, Bool.or_eq_true, Bool.and_eq_false_iff, Bool.or_eq_false_iff, Bool.not_eq_true', Bool.not_eq_false', decide_eq_true_eq, decide_eq_false_iff_not] at hp5
    refine L.stepT (wanted_yes rfl rfl ((show _ = Value.bool ((((decide17_f 1 Nm.zero ([(⟨3, 0, 1, 0, 0, 0, Nm.zero, Nm.zero⟩ : Vt), (⟨4, 0, 1, 0, 0, 1, Nm.zero, Nm.zero⟩ : Vt)] : List Vt)).2) && (!((decide17_f 1 Nm.zero (([(⟨3, 0, 1, 0, 0, 0, Nm.zero, Nm.zero⟩ : Vt), (⟨4, 0, 1, 0, 0, 1, Nm.zero, Nm.zero⟩ : Vt)] : List Vt).take 1)).2))) && (decide ((((decide17_f 1 Nm.zero ([(⟨3, 0, 1, 0, 0, 0, Nm.zero, Nm.zero⟩ : Vt), (⟨4, 0, 1, 0, 0, 1, Nm.zero, Nm.zero⟩ : Vt)] : List Vt)).1).length : Int) = 1))) from rfl).trans (congrArg Value.bool hs5))) (op_slice1 (a := (⟨0, Nm.zero⟩ : Ch)) rfl ((show _ = vif _ (Enc.val (⟨0, Nm.zero⟩ : Ch)) from rfl).trans (vif_t hs5).symm) sl51 zs82 (by decide)) ?_
    rintro _ w6 ⟨b6, rfl, hb6, hB6, hx6⟩
    have hE := hE.trans hx6
    have hR1 := hR1.ext hx6
    have hR2 := hR2.ext hx6
    have hR3 := hR3.ext hx6
    have hR4 := hR4.ext hx6
    refine L.callT (v := (.bool (certified17_f 1 Nm.zero ([(⟨3, 0, 1, 0, 0, 0, Nm.zero, Nm.zero⟩ : Vt), (⟨4, 0, 1, 0, 0, 1, Nm.zero, Nm.zero⟩ : Vt)] : List Vt) [(⟨0, Nm.zero⟩ : Ch)]))) (wanted_yes rfl rfl ((show _ = Value.bool ((((decide17_f 1 Nm.zero ([(⟨3, 0, 1, 0, 0, 0, Nm.zero, Nm.zero⟩ : Vt), (⟨4, 0, 1, 0, 0, 1, Nm.zero, Nm.zero⟩ : Vt)] : List Vt)).2) && (!((decide17_f 1 Nm.zero (([(⟨3, 0, 1, 0, 0, 0, Nm.zero, Nm.zero⟩ : Vt), (⟨4, 0, 1, 0, 0, 1, Nm.zero, Nm.zero⟩ : Vt)] : List Vt).take 1)).2))) && (decide ((((decide17_f 1 Nm.zero ([(⟨3, 0, 1, 0, 0, 0, Nm.zero, Nm.zero⟩ : Vt), (⟨4, 0, 1, 0, 0, 1, Nm.zero, Nm.zero⟩ : Vt)] : List Vt)).1).length : Int) = 1))) from rfl).trans (congrArg Value.bool hs5))) (OpS.call (op_call rfl (argsC rfl (argsC ((show _ = vif _ (Enc.val (Nm.zero : Nm)) from rfl).trans (vif_t hs5).symm) (argsC ((show _ = vif _ (.slice (some ⟨b1, 0, none⟩) ([(⟨3, 0, 1, 0, 0, 0, Nm.zero, Nm.zero⟩ : Vt), (⟨4, 0, 1, 0, 0, 1, Nm.zero, Nm.zero⟩ : Vt)] : List Vt).length ([(⟨3, 0, 1, 0, 0, 0, Nm.zero, Nm.zero⟩ : Vt), (⟨4, 0, 1, 0, 0, 1, Nm.zero, Nm.zero⟩ : Vt)] : List Vt).length) from rfl).trans (vif_t hs5).symm) (argsC rfl argsN)))) Try.func41 rfl rfl) (Certified17_ok hR1 (rd_box hB6) (by first | omega | (simp only [List.length_drop, List.length_take, List.length_append, List.length_cons, List.length_nil] at *; omega)))) ?_
    intro w7 hx7
    have hE := hE.trans hx7
    have hR1 := hR1.ext hx7
    have hR2 := hR2.ext hx7
    have hR3 := hR3.ext hx7
    have hR4 := hR4.ext hx7
    have hB6 := hB6.ext hx7
    refine L.val rfl (op_pickT rfl ((show _ = Value.bool ((((decide17_f 1 Nm.zero ([(⟨3, 0, 1, 0, 0, 0, Nm.zero, Nm.zero⟩ : Vt), (⟨4, 0, 1, 0, 0, 1, Nm.zero, Nm.zero⟩ : Vt)] : List Vt)).2) && (!((decide17_f 1 Nm.zero (([(⟨3, 0, 1, 0, 0, 0, Nm.zero, Nm.zero⟩ : Vt), (⟨4, 0, 1, 0, 0, 1, Nm.zero, Nm.zero⟩ : Vt)] : List Vt).take 1)).2))) && (decide ((((decide17_f 1 Nm.zero ([(⟨3, 0, 1, 0, 0, 0, Nm.zero, Nm.zero⟩ : Vt), (⟨4, 0, 1, 0, 0, 1, Nm.zero, Nm.zero⟩ : Vt)] : List Vt)).1).length : Int) = 1))) from rfl).trans (congrArg Value.bool hs5)) rfl) ?_
    refine L.val rfl (op_assign rfl rfl) ?_
    refine L.nil ?_
    refine thenF_nor ?_
    refine W.ret ?_
    exact end_ret1 (v := (.bool (certified17_f 1 Nm.zero ([(⟨3, 0, 1, 0, 0, 0, Nm.zero, Nm.zero⟩ : Vt), (⟨4, 0, 1, 0, 0, 1, Nm.zero, Nm.zero⟩ : Vt)] : List Vt) [(⟨0, Nm.zero⟩ : Ch)]))) rfl rfl ⟨(congrArg Value.bool (by decide +kernel)), hE⟩
  · have hp5 := hs5
    simp only [Bool.and_eq_true, Bool.or_eq_true, Bool.and_eq_false_iff, Bool.or_eq_false_iff, Bool.not_eq_true', Bool.not_eq_false', decide_eq_true_eq, decide_eq_false_iff_not] at hp5
    refine L.skipF (wanted_yes rfl rfl ((show _ = Value.bool ((((decide17_f 1 Nm.zero ([(⟨3, 0, 1, 0, 0, 0, Nm.zero, Nm.zero⟩ : Vt), (⟨4, 0, 1, 0, 0, 1, Nm.zero, Nm.zero⟩ : Vt)] : List Vt)).2) && (!((decide17_f 1 Nm.zero (([(⟨3, 0, 1, 0, 0, 0, Nm.zero, Nm.zero⟩ : Vt), (⟨4, 0, 1, 0, 0, 1, Nm.zero, Nm.zero⟩ : Vt)] : List Vt).take 1)).2))) && (decide ((((decide17_f 1 Nm.zero ([(⟨3, 0, 1, 0, 0, 0, Nm.zero, Nm.zero⟩ : Vt), (⟨4, 0, 1, 0, 0, 1, Nm.zero, Nm.zero⟩ : Vt)] : List Vt)).1).length : Int) = 1))) from rfl).trans (congrArg Value.bool hs5))) ?_
    refine L.skipF (wanted_yes rfl rfl ((show _ = Value.bool ((((decide17_f 1 Nm.zero ([(⟨3, 0, 1, 0, 0, 0, Nm.zero, Nm.zero⟩ : Vt), (⟨4, 0, 1, 0, 0, 1, Nm.zero, Nm.zero⟩ : Vt)] : List Vt)).2) && (!((decide17_f 1 Nm.zero (([(⟨3, 0, 1, 0, 0, 0, Nm.zero, Nm.zero⟩ : Vt), (⟨4, 0, 1, 0, 0, 1, Nm.zero, Nm.zero⟩ : Vt)] : List Vt).take 1)).2))) && (decide ((((decide17_f 1 Nm.zero ([(⟨3, 0, 1, 0, 0, 0, Nm.zero, Nm.zero⟩ : Vt), (⟨4, 0, 1, 0, 0, 1, Nm.zero, Nm.zero⟩ : Vt)] : List Vt)).1).length : Int) = 1))) from rfl).trans (congrArg Value.bool hs5))) ?_
    refine L.val (v := (.bool false)) rfl (op_pickF rfl ((show _ = Value.bool ((((decide17_f 1 Nm.zero ([(⟨3, 0, 1, 0, 0, 0, Nm.zero, Nm.zero⟩ : Vt), (⟨4, 0, 1, 0, 0, 1, Nm.zero, Nm.zero⟩ : Vt)] : List Vt)).2) && (!((decide17_f 1 Nm.zero (([(⟨3, 0, 1, 0, 0, 0, Nm.zero, Nm.zero⟩ : Vt), (⟨4, 0, 1, 0, 0, 1, Nm.zero, Nm.zero⟩ : Vt)] : List Vt).take 1)).2))) && (decide ((((decide17_f 1 Nm.zero ([(⟨3, 0, 1, 0, 0, 0, Nm.zero, Nm.zero⟩ : Vt), (⟨4, 0, 1, 0, 0, 1, Nm.zero, Nm.zero⟩ : Vt)] : List Vt)).1).length : Int) = 1))) from rfl).trans (congrArg Value.bool hs5)) rfl) ?_
    refine L.val (v := (.bool false)) rfl (op_assign rfl rfl) ?_
    refine L.nil ?_
    refine thenF_nor ?_
    refine W.ret ?_
    exact end_ret1 (v := (.bool false)) rfl rfl ⟨(nomatch (hs5.symm.trans (by decide +kernel : _ = true))), hE⟩

set_option maxRecDepth 100000 in
theorem choices17_ok {A_a : Option Addr} {c_a lo_a hi_a : Nat} {a : List Ch} {A_b : Option Addr} {c_b lo_b hi_b : Nat} {b : List Ch}  {w : World} (hR_a : Rd w lo_a hi_a A_a a) (hR_b : Rd w lo_b hi_b A_b b) : Gives Try.prog 45 #[(.slice A_a a.length c_a), (.slice A_b b.length c_b)] w fun u w' => u = (.bool (decide (a = b))) ∧ Ext w w' := by
  have hE : Ext w w := Ext.refl w
  have hlen_a := hR_a.len
  have hlen_b := hR_b.len
  refine gives_of_W Try.func45 rfl Try.ntmps45 rfl ?_
  refine W.seq ?_
  refine W.region (by rfl) ?_
  refine L.val (v := (.bool false)) rfl (op_assign rfl rfl) ?_
  refine L.nil ?_
  refine thenF_nor ?_
  refine W.seq ?_
  refine W.seq ?_
  refine W.region (by rfl) ?_
  refine L.val rfl (op_move rfl rfl) ?_
  refine L.val rfl (op_len rfl rfl ln51) ?_
  refine L.val rfl (op_move rfl rfl) ?_
  refine L.val rfl (op_len rfl rfl ln51) ?_
  refine L.val rfl (op_neq rfl rfl rfl) ?_
  refine L.nil ?_
  refine thenF_nor ?_
  refine W.cond (t := !decide ((a.length : Int) = (b.length : Int))) rfl (fun hc1 => ?_) (fun hc1 => ?_)
  · have hp1 := hc1
    simp only [Bool.and_eq_true, Bool.or_eq_true, Bool.and_eq_false_iff, Bool.or_eq_false_iff, Bool.not_eq_true', Bool.not_eq_false', decide_eq_true_eq, decide_eq_false_iff_not] at hp1
    have hres : decide (a = b) = false := decide_eq_false (fun e => by subst e; omega)
    refine W.seq ?_
    refine W.region (by rfl) ?_
    refine L.val (v := (.bool false)) rfl (op_assign rfl rfl) ?_
    refine L.nil ?_
    refine thenF_nor ?_
    refine W.ret ?_
    refine thenF_ret ?_
    exact end_ret1 (v := (.bool false)) rfl rfl ⟨(by rw [hres]), hE⟩
  · have hp1 := hc1
    simp only [Bool.and_eq_true, Bool.or_eq_true, Bool.and_eq_false_iff, Bool.or_eq_false_iff, Bool.not_eq_true', Bool.not_eq_false', decide_eq_true_eq, decide_eq_false_iff_not] at hp1
    have hll : a.length = b.length := by omega
    refine W.skip ?_
    refine thenF_nor ?_
    refine W.seq ?_
    refine W.seq ?_
    refine W.region (by rfl) ?_
    refine L.val rfl (op_assign rfl rfl) ?_
    refine L.nil ?_
    refine thenF_nor ?_
    refine W.block ?_
    have S2_hR_a := hR_a
    have S2_hR_b := hR_b
    have S2_hE := hE
    have hS2 : Ext w w := Ext.refl _
    refine W.loopg (γ := Nat) (fun (k : Nat) (f : Fr) (ww : World) => k ≤ a.length ∧ a.take k = b.take k ∧ f 0 = (.slice A_a a.length c_a) ∧ f 1 = (.slice A_b b.length c_b) ∧ f 5 = (.int .i64 ((k : Nat) : Int)) ∧ Ext w ww) (fun (k : Nat) => a.length - k) 0 ⟨(by (try dsimp only); omega), rfl, rfl, rfl, rfl, hS2⟩ ?_
    rintro k f3 w3 ⟨hk, hsm, s3_0, s3_1, s3_5, hS2⟩
    have hR_a := S2_hR_a.ext hS2
    have hR_b := S2_hR_b.ext hS2
    have hE := S2_hE.trans hS2
    refine W.seq ?_
    refine W.seq ?_
    refine W.region (by rfl) ?_
    refine L.val rfl (op_move rfl s3_5) ?_
    refine L.val rfl (op_move rfl s3_0) ?_
    refine L.val rfl (op_len rfl rfl ln51) ?_
    refine L.val rfl (op_lss rfl rfl rfl) ?_
    refine L.nil ?_
    refine thenF_nor ?_
    refine W.cond (t := decide (((k : Nat) : Int) < (a.length : Int))) rfl (fun hc4 => ?_) (fun hc4 => ?_)
    · have hp4 := hc4
      simp only [Bool.and_eq_true, Bool.or_eq_true, Bool.and_eq_false_iff, Bool.or_eq_false_iff, Bool.not_eq_true', Bool.not_eq_false', decide_eq_true_eq, decide_eq_false_iff_not] at hp4
      refine W.skip ?_
      refine thenF_nor ?_
      refine W.seq ?_
      refine W.block ?_
      refine W.seq ?_
      refine W.drawS [Sp.eq (.slice A_a a.length c_a), Sp.eq (.int .i64 ((k : Nat) : Int)), Sp.eq (.pointer (some ((adr A_a).add (k * 9)))), Sp.eq (Enc.val (a[k]! : Ch)), Sp.eq (.slice A_b b.length c_b), Sp.eq (.int .i64 ((k : Nat) : Int)), Sp.eq (.pointer (some ((adr A_b).add (k * 9)))), Sp.eq (Enc.val (b[k]! : Ch)), Sp.eq (.bool (!decide (a[k]! = b[k]!)))] mixed (by rfl) (Obls.cons ?_ (Obls.cons ?_ (Obls.cons ?_ (Obls.cons ?_ (Obls.cons ?_ (Obls.cons ?_ (Obls.cons ?_ (Obls.cons ?_ (Obls.cons ?_ Obls.nil))))))))) ?_
      · intro f6 w6 hx6 ho6 hd6
        have d6_s0 : f6 0 = (.slice A_a a.length c_a) := (ho6 0 rfl).trans s3_0
        exact D.val rfl (op_move rfl d6_s0)
      · intro f7 w7 hx7 ho7 hd7
        have d7_s5 : f7 5 = (.int .i64 ((k : Nat) : Int)) := (ho7 5 rfl).trans s3_5
        exact D.val rfl (op_move rfl d7_s5)
      · intro f8 w8 hx8 ho8 hd8
        have d8_0 : f8 17 = (.slice A_a a.length c_a) := hd8 0 rfl
        have d8_1 : f8 18 = (.int .i64 ((k : Nat) : Int)) := hd8 1 rfl
        have hR_a := hR_a.ext hx8
        have hR_b := hR_b.ext hx8
        skip
        exact D.val rfl (op_index (k := k) rfl d8_0 d8_1 sl51 (hR_a.getA (get_bang (l := a) (k := k) (by omega))).1 rfl (by omega) rfl)
      · intro f9 w9 hx9 ho9 hd9
        have d9_2 : f9 19 = (.pointer (some ((adr A_a).add (k * 9)))) := hd9 2 rfl
        have hR_a := hR_a.ext hx9
        have hR_b := hR_b.ext hx9
        skip
        exact D.val rfl (op_load (v := (a[k]! : Ch)) rfl d9_2 ty82 (hR_a.getA (get_bang (l := a) (k := k) (by omega))).2)
      · intro f10 w10 hx10 ho10 hd10
        have d10_s1 : f10 1 = (.slice A_b b.length c_b) := (ho10 1 rfl).trans s3_1
        exact D.val rfl (op_move rfl d10_s1)
      · intro f11 w11 hx11 ho11 hd11
        have d11_s5 : f11 5 = (.int .i64 ((k : Nat) : Int)) := (ho11 5 rfl).trans s3_5
        exact D.val rfl (op_move rfl d11_s5)
      · intro f12 w12 hx12 ho12 hd12
        have d12_4 : f12 21 = (.slice A_b b.length c_b) := hd12 4 rfl
        have d12_5 : f12 22 = (.int .i64 ((k : Nat) : Int)) := hd12 5 rfl
        have hR_a := hR_a.ext hx12
        have hR_b := hR_b.ext hx12
        skip
        exact D.val rfl (op_index (k := k) rfl d12_4 d12_5 sl51 (hR_b.getA (get_bang (l := b) (k := k) (by omega))).1 rfl (by omega) rfl)
      · intro f13 w13 hx13 ho13 hd13
        have d13_6 : f13 23 = (.pointer (some ((adr A_b).add (k * 9)))) := hd13 6 rfl
        have hR_a := hR_a.ext hx13
        have hR_b := hR_b.ext hx13
        skip
        exact D.val rfl (op_load (v := (b[k]! : Ch)) rfl d13_6 ty82 (hR_b.getA (get_bang (l := b) (k := k) (by omega))).2)
      · intro f14 w14 hx14 ho14 hd14
        have d14_3 : f14 20 = (Enc.val (a[k]! : Ch)) := hd14 3 rfl
        have d14_7 : f14 24 = (Enc.val (b[k]! : Ch)) := hd14 7 rfl
        exact D.val rfl (op_neqe (a := (a[k]! : Ch)) (b := (b[k]! : Ch)) rfl d14_3 d14_7 eq82 (fun _ => ⟨_, rfl⟩) Try.eqGuardType82)
      intro f15 w15 hx15 ho15 hr15
      have s0 : f15 0 = (.slice A_a a.length c_a) := (ho15 0 rfl).trans s3_0
      have s1 : f15 1 = (.slice A_b b.length c_b) := (ho15 1 rfl).trans s3_1
      have s5 : f15 5 = (.int .i64 ((k : Nat) : Int)) := (ho15 5 rfl).trans s3_5
      have s14 : f15 14 = (.bool (decide (((k : Nat) : Int) < (a.length : Int)))) := ho15 14 rfl
      have s25 : f15 25 = (.bool (!decide (a[k]! = b[k]!))) := hr15 8 (by decide)
      have hE := hE.trans hx15
      have hS2 := hS2.trans hx15
      have hR_a := hR_a.ext hx15
      have hR_b := hR_b.ext hx15
      refine thenF_nor ?_
      refine W.cond (t := !decide (a[k]! = b[k]!)) s25 (fun hc16 => ?_) (fun hc16 => ?_)
      · have hp16 := hc16
        simp only [Bool.and_eq_true, Bool.or_eq_true, Bool.and_eq_false_iff, Bool.or_eq_false_iff, Bool.not_eq_true', Bool.not_eq_false', decide_eq_true_eq, decide_eq_false_iff_not] at hp16
        have hne := hc16
        simp only [Bool.not_eq_true', decide_eq_false_iff_not] at hne
        have hres : decide (a = b) = false := decide_eq_false (fun e => hne (by rw [e]))
        refine W.seq ?_
        refine W.region (by rfl) ?_
        refine L.val (v := (.bool false)) rfl (op_assign rfl rfl) ?_
        refine L.nil ?_
        refine thenF_nor ?_
        refine W.ret ?_
        refine blockF_ret ?_
        refine thenF_ret ?_
        refine thenF_ret ?_
        refine blockF_ret ?_
        refine thenF_ret ?_
        exact end_ret1 (v := (.bool false)) rfl rfl ⟨(by rw [hres]), hE⟩
      · have hp16 := hc16
        simp only [Bool.and_eq_true, Bool.or_eq_true, Bool.and_eq_false_iff, Bool.or_eq_false_iff, Bool.not_eq_true', Bool.not_eq_false', decide_eq_true_eq, decide_eq_false_iff_not] at hp16
        have heq := hc16
        simp only [Bool.not_eq_false', decide_eq_true_eq] at heq
        refine W.skip ?_
        refine blockF_nor ?_
        refine thenF_nor ?_
        refine W.region (by rfl) ?_
        refine L.val rfl (op_move rfl s5) ?_
        refine L.val rfl (op_add (c := ((k + 1 : Nat) : Int)) rfl rfl rfl (by omega) (by omega)) ?_
        refine L.val rfl (op_assign rfl rfl) ?_
        refine L.nil ?_
        refine thenF_nor ?_
        exact ⟨k + 1, ⟨(by (try dsimp only); omega), (by rw [take_bang (by omega), take_bang (by omega), hsm, heq]), s0, s1, rfl, hS2⟩, (by (try dsimp only); omega)⟩
    · have hp4 := hc4
      simp only [Bool.and_eq_true, Bool.or_eq_true, Bool.and_eq_false_iff, Bool.or_eq_false_iff, Bool.not_eq_true', Bool.not_eq_false', decide_eq_true_eq, decide_eq_false_iff_not] at hp4
      have hres : decide (a = b) = true := decide_eq_true (by rw [← List.take_of_length_le (l := a) (i := k) (by omega), hsm, List.take_of_length_le (by omega)])
      refine W.exit ?_
      refine thenF_exit ?_
      refine thenF_exit ?_
      refine blockF_hit ?_
      refine thenF_nor ?_
      refine W.seq ?_
      refine W.region (by rfl) ?_
      refine L.val (v := (.bool true)) rfl (op_assign rfl rfl) ?_
      refine L.nil ?_
      refine thenF_nor ?_
      refine W.ret ?_
      exact end_ret1 (v := (.bool true)) rfl rfl ⟨(by rw [hres]), hE⟩

end Go.Proofs.Ytdknjfmjddlphaa
