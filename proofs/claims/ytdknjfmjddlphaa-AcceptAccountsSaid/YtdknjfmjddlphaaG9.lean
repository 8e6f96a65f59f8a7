/-
  Contracts of functions of the program, each with its walk in the logic of frames. Printed by a program of this session (wip/gen) from the translation.
-/
import Derived.Test.YtdknjfmjddlphaaDefs4
import Derived.Test.YtdknjfmjddlphaaOutPure
set_option linter.unusedSimpArgs false
set_option linter.unusedVariables false
namespace Go.Proofs.Ytdknjfmjddlphaa
open Go Go.Fk

set_option maxRecDepth 100000 in
theorem before_ok {a : Oc} {b : Oc}  {w : World}  : Gives Try.prog 62 #[(Enc.val (a : Oc)), (Enc.val (b : Oc))] w fun u w' => u = (.bool (before_f a b)) ∧ Ext w w' := by
  have hE : Ext w w := Ext.refl w
  refine gives_of_W Try.func62 rfl Try.ntmps62 rfl ?_
  refine W.seq ?_
  refine W.region (by rfl) ?_
  refine L.step rfl (op_box (cs := (Enc.cells (a : Oc))) rfl rfl rfl) ?_
  rintro _ w1 ⟨b1, rfl, hb1, hB1, hx1⟩
  have hE := hE.trans hx1
  refine L.step rfl (op_box (cs := (Enc.cells (b : Oc))) rfl rfl rfl) ?_
  rintro _ w2 ⟨b2, rfl, hb2, hB2, hx2⟩
  have hE := hE.trans hx2
  have hB1 := hB1.ext hx2
  refine L.val (v := (.bool false)) rfl (op_assign rfl rfl) ?_
  refine L.nil ?_
  refine thenF_nor ?_
  refine W.seq ?_
  refine W.block ?_
  refine W.seq ?_
  refine W.region (by rfl) ?_
  refine L.val rfl (op_field rfl rfl fo49_1 rfl) ?_
  refine L.val rfl (op_load1 rfl rfl one3 (hB1.cells.one (n := 1) rfl)) ?_
  refine L.val rfl (op_field rfl rfl fo49_1 rfl) ?_
  refine L.val rfl (op_load1 rfl rfl one3 (hB2.cells.one (n := 1) rfl)) ?_
  refine L.val rfl (op_neq rfl rfl rfl) ?_
  refine L.val rfl (op_assign rfl rfl) ?_
  refine L.nil ?_
  refine thenF_nor ?_
  refine W.cond (t := !decide (a.round = b.round)) rfl (fun hc3 => ?_) (fun hc3 => ?_)
  · have hp3 := hc3
    simp only [Bool.and_eq_true, Bool.or_eq_true, Bool.and_eq_false_iff, Bool.or_eq_false_iff, Bool.not_eq_true', Bool.not_eq_false', decide_eq_true_eq, decide_eq_false_iff_not] at hp3
    refine W.seq ?_
    refine W.region (by rfl) ?_
    refine L.val rfl (op_field rfl rfl fo49_1 rfl) ?_
    refine L.val rfl (op_load1 rfl rfl one3 (hB1.cells.one (n := 1) rfl)) ?_
    refine L.val rfl (op_field rfl rfl fo49_1 rfl) ?_
    refine L.val rfl (op_load1 rfl rfl one3 (hB2.cells.one (n := 1) rfl)) ?_
    refine L.val rfl (op_lss rfl rfl rfl) ?_
    refine L.val rfl (op_assign rfl rfl) ?_
    refine L.nil ?_
    refine thenF_nor ?_
    refine W.ret ?_
    refine blockF_ret ?_
    refine thenF_ret ?_
    exact end_ret1 (v := (.bool (decide (a.round < b.round)))) rfl rfl ⟨(by simp only [before_f, hc3, cond_true]), hE⟩
  · have hp3 := hc3
    simp only [Bool.and_eq_true, Bool.or_eq_true, Bool.and_eq_false_iff, Bool.or_eq_false_iff, Bool.not_eq_true', Bool.not_eq_false', decide_eq_true_eq, decide_eq_false_iff_not] at hp3
    refine W.seq ?_
    refine W.region (by rfl) ?_
    refine L.val rfl (op_field rfl rfl fo49_2 rfl) ?_
    refine L.val rfl (op_load1 rfl rfl one3 (hB1.cells.one (n := 2) rfl)) ?_
    refine L.val rfl (op_field rfl rfl fo49_2 rfl) ?_
    refine L.val rfl (op_load1 rfl rfl one3 (hB2.cells.one (n := 2) rfl)) ?_
    refine L.val rfl (op_neq rfl rfl rfl) ?_
    refine L.val rfl (op_assign rfl rfl) ?_
    refine L.nil ?_
    refine thenF_nor ?_
    refine W.cond (t := !decide (a.choice = b.choice)) rfl (fun hc4 => ?_) (fun hc4 => ?_)
    · have hp4 := hc4
      simp only [Bool.and_eq_true, Bool.or_eq_true, Bool.and_eq_false_iff, Bool.or_eq_false_iff, Bool.not_eq_true', Bool.not_eq_false', decide_eq_true_eq, decide_eq_false_iff_not] at hp4
      refine W.seq ?_
      refine W.region (by rfl) ?_
      refine L.val rfl (op_field rfl rfl fo49_2 rfl) ?_
      refine L.val rfl (op_load1 rfl rfl one3 (hB1.cells.one (n := 2) rfl)) ?_
      refine L.val rfl (op_field rfl rfl fo49_2 rfl) ?_
      refine L.val rfl (op_load1 rfl rfl one3 (hB2.cells.one (n := 2) rfl)) ?_
      refine L.val rfl (op_lss rfl rfl rfl) ?_
      refine L.val rfl (op_assign rfl rfl) ?_
      refine L.nil ?_
      refine thenF_nor ?_
      refine W.ret ?_
      refine blockF_ret ?_
      refine thenF_ret ?_
      exact end_ret1 (v := (.bool (decide (a.choice < b.choice)))) rfl rfl ⟨(by simp only [before_f, hc3, hc4, cond_true, cond_false]), hE⟩
    · have hp4 := hc4
      simp only [Bool.and_eq_true, Bool.or_eq_true, Bool.and_eq_false_iff, Bool.or_eq_false_iff, Bool.not_eq_true', Bool.not_eq_false', decide_eq_true_eq, decide_eq_false_iff_not] at hp4
      refine W.skip ?_
      refine blockF_nor ?_
      refine thenF_nor ?_
      refine W.seq ?_
      refine W.region (by rfl) ?_
      refine L.val rfl (op_field rfl rfl fo49_3 rfl) ?_
      refine L.val rfl (op_load (v := (a.value : Nm)) rfl rfl ty24 (sub_nm 3 hB1.cells rfl)) ?_
      refine L.val rfl (op_field rfl rfl fo49_3 rfl) ?_
      refine L.val rfl (op_load (v := (b.value : Nm)) rfl rfl ty24 (sub_nm 3 hB2.cells rfl)) ?_
      refine L.call (v := (.bool (hashLess_f a.value b.value))) rfl (OpS.call (op_call rfl (argsC rfl (argsC rfl argsN)) Try.func34 rfl rfl) hashLess_ok) ?_
      intro w5 hx5
      have hE := hE.trans hx5
      have hB1 := hB1.ext hx5
      have hB2 := hB2.ext hx5
      refine L.val rfl (op_assign rfl rfl) ?_
      refine L.nil ?_
      refine thenF_nor ?_
      refine W.ret ?_
      exact end_ret1 (v := (.bool (hashLess_f a.value b.value))) rfl rfl ⟨(by simp only [before_f, hc3, hc4, cond_false]), hE⟩

set_option maxRecDepth 100000 in
theorem outcomes1_ok {i : Nat} {j : Nat} {q_l : Addr} {A_l : Option Addr} {c_l lo_l hi_l : Nat} {l : List Oc}  {w : World} (hq_l : Cells w q_l [.slice A_l l.length c_l]) (hR_l : Rd w lo_l hi_l A_l l) (hi : i < l.length) (hj : j < l.length) : Gives Try.prog 61 #[(.int .i64 ((i : Nat) : Int)), (.int .i64 ((j : Nat) : Int)), (.pointer (some q_l))] w fun u w' => u = (.bool (before_f l[i]! l[j]!)) ∧ Ext w w' := by
  have hE : Ext w w := Ext.refl w
  have hlen_l := hR_l.len
  refine gives_of_W Try.func61 rfl Try.ntmps61 rfl ?_
  refine W.seq ?_
  refine W.region (by rfl) ?_
  refine L.val (v := (.bool false)) rfl (op_assign rfl rfl) ?_
  refine L.nil ?_
  refine thenF_nor ?_
  refine W.seq ?_
  refine W.drawS [Sp.eq (.slice A_l l.length c_l), Sp.eq (.int .i64 ((i : Nat) : Int)), Sp.eq (.pointer (some ((adr A_l).add (i * 11)))), Sp.eq (Enc.val (l[i]! : Oc)), Sp.eq (.slice A_l l.length c_l), Sp.eq (.int .i64 ((j : Nat) : Int)), Sp.eq (.pointer (some ((adr A_l).add (j * 11)))), Sp.eq (Enc.val (l[j]! : Oc)), Sp.eq (.bool (before_f (l[i]!) (l[j]!))), Sp.eq (.bool (before_f (l[i]!) (l[j]!)))] mixed (by rfl) (Obls.cons ?_ (Obls.cons ?_ (Obls.cons ?_ (Obls.cons ?_ (Obls.cons ?_ (Obls.cons ?_ (Obls.cons ?_ (Obls.cons ?_ (Obls.cons ?_ (Obls.cons ?_ Obls.nil)))))))))) ?_
  · intro f2 w2 hx2 ho2 hd2
    have d2_s2 : f2 2 = (.pointer (some q_l)) := ho2 2 rfl
    have hq_l := hq_l.ext hx2
    have hR_l := hR_l.ext hx2
    exact D.val rfl (op_load1 rfl d2_s2 one37 (hq_l.one (n := 0) rfl))
  · intro f3 w3 hx3 ho3 hd3
    have d3_s0 : f3 0 = (.int .i64 ((i : Nat) : Int)) := ho3 0 rfl
    exact D.val rfl (op_move rfl d3_s0)
  · intro f4 w4 hx4 ho4 hd4
    have d4_0 : f4 6 = (.slice A_l l.length c_l) := hd4 0 rfl
    have d4_1 : f4 7 = (.int .i64 ((i : Nat) : Int)) := hd4 1 rfl
    have hq_l := hq_l.ext hx4
    have hR_l := hR_l.ext hx4
    skip
    exact D.val rfl (op_index (k := i) rfl d4_0 d4_1 sl37 (hR_l.getA (get_bang (l := l) (k := i) (by omega))).1 rfl (by omega) rfl)
  · intro f5 w5 hx5 ho5 hd5
    have d5_2 : f5 8 = (.pointer (some ((adr A_l).add (i * 11)))) := hd5 2 rfl
    have hq_l := hq_l.ext hx5
    have hR_l := hR_l.ext hx5
    skip
    exact D.val rfl (op_load (v := (l[i]! : Oc)) rfl d5_2 ty49 (hR_l.getA (get_bang (l := l) (k := i) (by omega))).2)
  · intro f6 w6 hx6 ho6 hd6
    have d6_s2 : f6 2 = (.pointer (some q_l)) := ho6 2 rfl
    have hq_l := hq_l.ext hx6
    have hR_l := hR_l.ext hx6
    exact D.val rfl (op_load1 rfl d6_s2 one37 (hq_l.one (n := 0) rfl))
  · intro f7 w7 hx7 ho7 hd7
    have d7_s1 : f7 1 = (.int .i64 ((j : Nat) : Int)) := ho7 1 rfl
    exact D.val rfl (op_move rfl d7_s1)
  · intro f8 w8 hx8 ho8 hd8
    have d8_4 : f8 10 = (.slice A_l l.length c_l) := hd8 4 rfl
    have d8_5 : f8 11 = (.int .i64 ((j : Nat) : Int)) := hd8 5 rfl
    have hq_l := hq_l.ext hx8
    have hR_l := hR_l.ext hx8
    skip
    exact D.val rfl (op_index (k := j) rfl d8_4 d8_5 sl37 (hR_l.getA (get_bang (l := l) (k := j) (by omega))).1 rfl (by omega) rfl)
  · intro f9 w9 hx9 ho9 hd9
    have d9_6 : f9 12 = (.pointer (some ((adr A_l).add (j * 11)))) := hd9 6 rfl
    have hq_l := hq_l.ext hx9
    have hR_l := hR_l.ext hx9
    skip
    exact D.val rfl (op_load (v := (l[j]! : Oc)) rfl d9_6 ty49 (hR_l.getA (get_bang (l := l) (k := j) (by omega))).2)
  · intro f10 w10 hx10 ho10 hd10
    have d10_3 : f10 9 = (Enc.val (l[i]! : Oc)) := hd10 3 rfl
    have d10_7 : f10 13 = (Enc.val (l[j]! : Oc)) := hd10 7 rfl
    have hq_l := hq_l.ext hx10
    have hR_l := hR_l.ext hx10
    exact D.call (R := (Sp.eq (.bool (before_f (l[i]!) (l[j]!)))).p) rfl (OpS.call (op_call rfl (argsC d10_3 (argsC d10_7 argsN)) Try.func62 rfl rfl) before_ok)
  · intro f11 w11 hx11 ho11 hd11
    have d11_8 : f11 14 = (.bool (before_f (l[i]!) (l[j]!))) := hd11 8 rfl
    exact D.val rfl (op_assign rfl d11_8)
  intro f12 w12 hx12 ho12 hr12
  have s0 : f12 0 = (.int .i64 ((i : Nat) : Int)) := ho12 0 rfl
  have s1 : f12 1 = (.int .i64 ((j : Nat) : Int)) := ho12 1 rfl
  have s2 : f12 2 = (.pointer (some q_l)) := ho12 2 rfl
  have s5 : f12 5 = (.bool (before_f (l[i]!) (l[j]!))) := hr12 9 (by decide)
  have hE := hE.trans hx12
  have hq_l := hq_l.ext hx12
  have hR_l := hR_l.ext hx12
  refine thenF_nor ?_
  refine W.ret ?_
  exact end_ret1 (v := (.bool (before_f (l[i]!) (l[j]!)))) rfl s5 ⟨rfl, hE⟩

set_option maxRecDepth 100000 in
set_option maxHeartbeats 8000000 in
theorem Outcomes_ok {m : Int} {parent : Nm} {A_l : Option Addr} {c_l lo_l hi_l : Nat} {l : List Vt} {slot : Int}  {w : World} (hR_l : Rd w lo_l hi_l A_l l) (hl : l.length ≤ 1000000) : Gives Try.prog 26 #[(.int .i64 m), (Enc.val (parent : Nm)), (.slice A_l l.length c_l), (.int .i64 slot)] w fun u w' => SlR w' u (outcomes_f m parent l slot : List Oc) ∧ Ext w w' := by
  have hE : Ext w w := Ext.refl w
  have hlen_l := hR_l.len
  refine gives_of_W Try.func26 rfl Try.ntmps26 rfl ?_
  have hsz0 := size_nn m
  have hsz1 := size_le m
  refine W.seq ?_
  refine W.region (by rfl) ?_
  refine L.step rfl (op_box (cs := (Enc.cells (parent : Nm))) rfl rfl rfl) ?_
  rintro _ w1 ⟨b1, rfl, hb1, hB1, hx1⟩
  have hE := hE.trans hx1
  have hR_l := hR_l.ext hx1
  refine L.val rfl (op_assign rfl rfl) ?_
  refine L.nil ?_
  refine thenF_nor ?_
  refine W.seq ?_
  refine W.region (by rfl) ?_
  refine L.val rfl (op_assign rfl rfl) ?_
  refine L.nil ?_
  refine thenF_nor ?_
  refine W.seq ?_
  refine W.seq ?_
  refine W.region (by rfl) ?_
  refine L.val rfl (op_move rfl rfl) ?_
  refine L.val rfl (op_len rfl rfl ln25) ?_
  refine L.val rfl (op_move rfl rfl) ?_
  refine L.nil ?_
  refine thenF_nor ?_
  refine W.block ?_
  have S2_hR_l := hR_l
  have S2_hB1 := hB1
  have S2_hE := hE
  have hS2 : Ext w1 w1 := Ext.refl _
  refine W.loopg (γ := Nat) (fun (k : Nat) (f : Fr) (ww : World) => k ≤ l.length ∧ f 0 = (.int .i64 m) ∧ f 3 = (.int .i64 slot) ∧ f 5 = (.pointer (some ⟨b1, 0, none⟩)) ∧ f 8 = (.slice none 0 0) ∧ f 18 = (.slice A_l l.length c_l) ∧ f 19 = (.int .i64 (l.length : Int)) ∧ f 20 = (.int .i64 ((k : Nat) : Int)) ∧ Fk.Own ww w1.heap.size 28 (f 9) ((l.take k).filter (fun x => decide (x.slot = slot) && decide (x.kind ≤ 4))) ∧ Ext w1 ww) (fun (k : Nat) => l.length - k) 0 ⟨(by (try dsimp only); omega), rfl, rfl, rfl, rfl, rfl, rfl, rfl, (own_at (v := .slice none 0 0) rfl (Fk.Own.nil _ _ _)), hS2⟩ ?_
  rintro k f3 w3 ⟨hk, s3_0, s3_3, s3_5, s3_8, s3_18, s3_19, s3_20, hO3_9, hS2⟩
  have hR_l := S2_hR_l.ext hS2
  have hB1 := S2_hB1.ext hS2
  have hE := S2_hE.trans hS2
  obtain ⟨v3_9, s3_9⟩ : ∃ v, f3 9 = v := ⟨_, rfl⟩
  rw [s3_9] at hO3_9
  have hfl := List.length_filter_le (fun x => decide (x.slot = slot) && decide (x.kind ≤ 4)) (l.take k)
  have htl := List.length_take_le' k l
  refine W.seq ?_
  refine W.region (by rfl) ?_
  refine L.val rfl (op_lss rfl s3_20 s3_19) ?_
  refine L.nil ?_
  refine thenF_nor ?_
  refine W.seq ?_
  refine W.cond (t := decide (((k : Nat) : Int) < (l.length : Int))) rfl (fun hc4 => ?_) (fun hc4 => ?_)
  · have hp4 := hc4
    simp only [Bool.and_eq_true, Bool.or_eq_true, Bool.and_eq_false_iff, Bool.or_eq_false_iff, Bool.not_eq_true', Bool.not_eq_false', decide_eq_true_eq, decide_eq_false_iff_not] at hp4
    refine W.skip ?_
    refine thenF_nor ?_
    refine W.seq ?_
    refine W.block ?_
    refine W.seq ?_
    refine W.region (by rfl) ?_
    refine L.val rfl (op_index (k := k) rfl s3_18 s3_20 sl25 (hR_l.getA (get_bang (l := l) (k := k) (by omega))).1 rfl (by omega) rfl) ?_
    refine L.val rfl (op_load (v := (l[k]! : Vt)) rfl rfl ty28 (hR_l.getA (get_bang (l := l) (k := k) (by omega))).2) ?_
    refine L.newvar (v := (Enc.val (l[k]! : Vt))) (cs := (Enc.cells (l[k]! : Vt))) rfl rfl rfl rfl rfl rfl (fun _ => rfl) rfl si28 zs28 (Enc.one _) ?_
    intro b5 w5 hb5 hB5 hx5
    have hbb5_hE := Nat.le_trans hE.size hb5
    have hbb5_hS2 := Nat.le_trans hS2.size hb5
    have hE := hE.trans hx5
    have hS2 := hS2.trans hx5
    have hR_l := hR_l.ext hx5
    have hB1 := hB1.ext hx5
    have hO3_9 := hO3_9.ext hx5
    refine L.nil ?_
    refine thenF_nor ?_
    refine W.seq ?_
    refine W.region (by rfl) ?_
    refine L.val rfl (op_field rfl rfl fo28_1 rfl) ?_
    refine L.val rfl (op_load1 rfl rfl one3 (hB5.cells.one (n := 1) rfl)) ?_
    refine L.val rfl (op_move rfl s3_3) ?_
    refine L.val rfl (op_eql rfl rfl rfl) ?_
    refine L.val rfl (op_move rfl rfl) ?_
    refine L.guardv (v := (.pointer (some ⟨b5, 0, none⟩))) (wanted_yes rfl rfl rfl) (fun hg => (op_field rfl rfl fo28_0 rfl)) ?_
    refine L.guardv (v := (.int .i64 ((l[k]!).kind))) (wanted_yes rfl rfl rfl) (fun hg => (op_load1 rfl ((show _ = vif _ (.pointer (some ⟨b5, 0, none⟩)) from rfl).trans (vif_t hg).symm) one3 (hB5.cells.one (n := 0) rfl))) ?_
    refine L.guardv (v := (.bool (decide (((l[k]!).kind) ≤ 4)))) (wanted_yes rfl rfl rfl) (fun hg => (op_leq rfl ((show _ = vif _ (.int .i64 ((l[k]!).kind)) from rfl).trans (vif_t hg).symm) rfl)) ?_
    refine L.val rfl (op_and rfl rfl rfl rfl) ?_
    refine L.nil ?_
    refine thenF_nor ?_
    refine W.cond (t := (decide (((l[k]!).slot) = slot)) && (decide (((l[k]!).kind) ≤ 4))) rfl (fun hc6 => ?_) (fun hc6 => ?_)
    · have hp6 := hc6
      simp only [Bool.and_eq_true, Bool.or_eq_true, Bool.and_eq_false_iff, Bool.or_eq_false_iff, Bool.not_eq_true', Bool.not_eq_false', decide_eq_true_eq, decide_eq_false_iff_not] at hp6
      have hstep := filter_yes (l := l) (p := (fun x => decide (x.slot = slot) && decide (x.kind ≤ 4))) (k := k) (by omega) hc6
      refine W.region (by rfl) ?_
      refine L.val rfl (op_move rfl s3_9) ?_
      refine L.val rfl (op_load (v := (l[k]! : Vt)) rfl rfl ty28 hB5.cells) ?_
      refine L.step rfl (op_slice1 (a := (l[k]! : Vt)) rfl rfl sl25 zs28 (by decide)) ?_
      rintro _ w7 ⟨b7, rfl, hb7, hB7, hx7⟩
      have hE := hE.trans hx7
      have hS2 := hS2.trans hx7
      have hR_l := hR_l.ext hx7
      have hB1 := hB1.ext hx7
      have hO3_9 := hO3_9.ext hx7
      have hB5 := hB5.ext hx7
      refine L.step rfl (op_append (a := (l[k]! : Vt)) (ad := ⟨b7, 0, none⟩) rfl rfl rfl sl25 zs28 bt28 hO3_9 hB7.cells (by omega) (by decide) hS2.size) ?_
      rintro v8 w8 ⟨hO8, hg8⟩
      have hS2 := hS2.own hO3_9 hg8
      have hR_l := S2_hR_l.ext hS2
      have hB1 := S2_hB1.ext hS2
      have hE := S2_hE.trans hS2
      refine L.val rfl (op_assign rfl rfl) ?_
      refine L.nil ?_
      refine blockF_nor ?_
      refine thenF_nor ?_
      refine W.region (by rfl) ?_
      refine L.val rfl (op_add (c := ((k + 1 : Nat) : Int)) rfl s3_20 rfl (by omega) (by omega)) ?_
      refine L.val rfl (op_move rfl rfl) ?_
      refine L.nil ?_
      refine thenF_nor ?_
      exact ⟨k + 1, ⟨(by (try dsimp only); omega), s3_0, s3_3, s3_5, s3_8, s3_18, s3_19, rfl, (own_at (v := v8) rfl (by rw [← hstep]; exact hO8)), hS2⟩, (by (try dsimp only); omega)⟩
    · have hp6 := hc6
      simp only [Bool.and_eq_true, Bool.or_eq_true, Bool.and_eq_false_iff, Bool.or_eq_false_iff, Bool.not_eq_true', Bool.not_eq_false', decide_eq_true_eq, decide_eq_false_iff_not] at hp6
      have hstep := filter_no (l := l) (p := (fun x => decide (x.slot = slot) && decide (x.kind ≤ 4))) (k := k) (by omega) hc6
      refine W.skip ?_
      refine blockF_nor ?_
      refine thenF_nor ?_
      refine W.region (by rfl) ?_
      refine L.val rfl (op_add (c := ((k + 1 : Nat) : Int)) rfl s3_20 rfl (by omega) (by omega)) ?_
      refine L.val rfl (op_move rfl rfl) ?_
      refine L.nil ?_
      refine thenF_nor ?_
      exact ⟨k + 1, ⟨(by (try dsimp only); omega), s3_0, s3_3, s3_5, s3_8, s3_18, s3_19, rfl, (own_at (v := v3_9) s3_9 (by rw [← hstep]; exact hO3_9)), hS2⟩, (by (try dsimp only); omega)⟩
  · have hp4 := hc4
    simp only [Bool.and_eq_true, Bool.or_eq_true, Bool.and_eq_false_iff, Bool.or_eq_false_iff, Bool.not_eq_true', Bool.not_eq_false', decide_eq_true_eq, decide_eq_false_iff_not] at hp4
    have hkl : k = l.length := by omega
    rw [hkl, List.take_length] at hO3_9
    change Fk.Own _ _ _ _ (own_f slot l) at hO3_9
    have hol : (own_f slot l).length ≤ l.length := List.length_filter_le _ _
    have hal := acc_len m parent (own_f slot l)
    refine W.exit ?_
    refine thenF_exit ?_
    refine thenF_exit ?_
    refine blockF_hit ?_
    refine thenF_nor ?_
    refine W.seq ?_
    refine W.region (by rfl) ?_
    refine L.step rfl (op_makeMap Oc rfl) ?_
    rintro _ w9 ⟨b9, rfl, hb9, hM9, hx9⟩
    have hbb9_hE := Nat.le_trans hE.size hb9
    have hbb9_hS2 := Nat.le_trans hS2.size hb9
    have hE := hE.trans hx9
    have hS2 := hS2.trans hx9
    have hR_l := hR_l.ext hx9
    have hB1 := hB1.ext hx9
    have hO3_9 := hO3_9.ext hx9
    refine L.val rfl (op_assign rfl rfl) ?_
    refine L.nil ?_
    refine thenF_nor ?_
    refine W.seq ?_
    refine W.seq ?_
    obtain ⟨A10, c10, hv10, hR10, hcap10⟩ := (hO3_9).form
    have hlen10 := hR10.len
    refine W.region (by rfl) ?_
    refine L.val rfl (op_move rfl s3_0) ?_
    refine L.val rfl (op_load (v := (parent : Nm)) rfl s3_5 ty24 hB1.cells) ?_
    refine L.val rfl (op_move rfl ((show _ = v3_9 from s3_9).trans hv10)) ?_
    refine L.step rfl (OpS.call (op_call rfl (argsC rfl (argsC rfl (argsC rfl argsN))) Try.func18 rfl rfl) (Accepted_ok hR10 (by first | omega | (simp only [List.length_drop, List.length_take, List.length_append, List.length_cons, List.length_nil] at *; omega)))) ?_
    rintro _ w11 ⟨⟨A11, c11, lo11, hi11, rfl, hcap11, hR11⟩, hx11⟩
    have hE := hE.trans hx11
    have hS2 := hS2.trans hx11
    have hR_l := hR_l.ext hx11
    have hB1 := hB1.ext hx11
    have hO3_9 := hO3_9.ext hx11
    have hM9 := hM9.ext hx11
    have hR10 := hR10.ext hx11
    have hlen11 := hR11.len
    refine L.val rfl (op_len rfl rfl ln25) ?_
    refine L.val rfl (op_move rfl rfl) ?_
    refine L.nil ?_
    refine thenF_nor ?_
    refine W.block ?_
    have S12_hR_l := hR_l
    have S12_hB1 := hB1
    have S12_hO3_9 := hO3_9
    have S12_hM9 := hM9
    have S12_hR10 := hR10
    have S12_hR11 := hR11
    have S12_hE := hE
    have S12_hS2 := hS2
    have hS12 : Ext w11 w11 := Ext.refl _
    refine W.loopg (γ := Nat) (fun (k2 : Nat) (f : Fr) (ww : World) => k2 ≤ (accepted_f m parent (own_f slot l)).length ∧ f 0 = (.int .i64 m) ∧ f 3 = (.int .i64 slot) ∧ f 8 = (.slice none 0 0) ∧ f 42 = (.slice A11 (accepted_f m parent (own_f slot l)).length c11) ∧ f 43 = (.int .i64 ((accepted_f m parent (own_f slot l)).length : Int)) ∧ f 44 = (.int .i64 ((k2 : Nat) : Int)) ∧ f 12 = (.map (some b9)) ∧ Mp ww b9 (by_f slot ((accepted_f m parent (own_f slot l)).take k2) : List (Oc × Int)) ∧ w11.grownBy ww (some b9)) (fun (k2 : Nat) => (accepted_f m parent (own_f slot l)).length - k2) 0 ⟨(by (try dsimp only); omega), s3_0, s3_3, s3_8, rfl, rfl, rfl, rfl, hM9, (grown_refl _ _)⟩ ?_
    rintro k2 f13 w13 ⟨hk2, s13_0, s13_3, s13_8, s13_42, s13_43, s13_44, s13_12, hM13_12, hT13⟩
    have hnc13 := S12_hM9.nc
    have hR_l := S12_hR_l.farM hnc13 hT13
    have hB1 := S12_hB1.farM hnc13 hT13
    have hO3_9 := S12_hO3_9.farM hnc13 hT13
    have hR10 := S12_hR10.farM hnc13 hT13
    have hR11 := S12_hR11.farM hnc13 hT13
    have hE := S12_hE.grown hT13 (by intro k hk; cases hk; exact hbb9_hE)
    have hS2 := S12_hS2.grown hT13 (by intro k hk; cases hk; exact hbb9_hS2)
    refine W.seq ?_
    refine W.region (by rfl) ?_
    refine L.val rfl (op_lss rfl s13_44 s13_43) ?_
    refine L.nil ?_
    refine thenF_nor ?_
    refine W.seq ?_
    refine W.cond (t := decide (((k2 : Nat) : Int) < ((accepted_f m parent (own_f slot l)).length : Int))) rfl (fun hc14 => ?_) (fun hc14 => ?_)
    · have hp14 := hc14
      simp only [Bool.and_eq_true, Bool.or_eq_true, Bool.and_eq_false_iff, Bool.or_eq_false_iff, Bool.not_eq_true', Bool.not_eq_false', decide_eq_true_eq, decide_eq_false_iff_not] at hp14
      have hsb := (acc_sig m parent (own_f slot l) k2 (by omega)).2
      refine W.skip ?_
      refine thenF_nor ?_
      refine W.seq ?_
      refine W.block ?_
      refine W.seq ?_
      refine W.region (by rfl) ?_
      refine L.val rfl (op_index (k := k2) rfl s13_42 s13_44 sl25 (hR11.getA (get_bang (l := accepted_f m parent (own_f slot l)) (k := k2) (by omega))).1 rfl (by omega) rfl) ?_
      refine L.val rfl (op_load (v := (accepted_f m parent (own_f slot l))[k2]!) rfl rfl ty28 (hR11.getA (get_bang (l := accepted_f m parent (own_f slot l)) (k := k2) (by omega))).2) ?_
      refine L.newvar (v := (Enc.val ((accepted_f m parent (own_f slot l))[k2]!))) (cs := (Enc.cells (accepted_f m parent (own_f slot l))[k2]!)) rfl rfl rfl rfl rfl rfl (fun _ => rfl) rfl si28 zs28 (Enc.one _) ?_
      intro b15 w15 hb15 hB15 hx15
      have hbb15_hE := Nat.le_trans hE.size hb15
      have hbb15_hS2 := Nat.le_trans hS2.size hb15
      have hbb15_hT13 := Nat.le_trans hT13.size hb15
      have hE := hE.trans hx15
      have hS2 := hS2.trans hx15
      have hT13 := grown_ext hT13 hx15
      have hR_l := hR_l.ext hx15
      have hB1 := hB1.ext hx15
      have hO3_9 := hO3_9.ext hx15
      have hR10 := hR10.ext hx15
      have hR11 := hR11.ext hx15
      have hM13_12 := hM13_12.ext hx15
      refine L.nil ?_
      refine thenF_nor ?_
      refine W.seq ?_
      refine W.region (by rfl) ?_
      refine L.val rfl (op_field rfl rfl fo28_0 rfl) ?_
      refine L.val rfl (op_load1 rfl rfl one3 (hB15.cells.one (n := 0) rfl)) ?_
      refine L.val rfl (op_eql rfl rfl rfl) ?_
      refine L.val rfl (op_move rfl rfl) ?_
      refine L.guardv (v := (.pointer (some ⟨b15, 3, none⟩))) (wanted_yes rfl rfl rfl) (fun hg => (op_field rfl rfl fo28_3 rfl)) ?_
      refine L.guardv (v := (.int .i64 (((accepted_f m parent (own_f slot l))[k2]!).choice))) (wanted_yes rfl rfl rfl) (fun hg => (op_load1 rfl ((show _ = vif _ (.pointer (some ⟨b15, 3, none⟩)) from rfl).trans (vif_t hg).symm) one3 (hB15.cells.one (n := 3) rfl))) ?_
      refine L.guardv (v := (.bool (!decide ((((accepted_f m parent (own_f slot l))[k2]!).choice) = 2)))) (wanted_yes rfl rfl rfl) (fun hg => (op_neq rfl ((show _ = vif _ (.int .i64 (((accepted_f m parent (own_f slot l))[k2]!).choice)) from rfl).trans (vif_t hg).symm) rfl)) ?_
      refine L.val rfl (op_and rfl rfl rfl rfl) ?_
      refine L.nil ?_
      refine thenF_nor ?_
      refine W.cond (t := (decide ((((accepted_f m parent (own_f slot l))[k2]!).kind) = 4)) && (!decide ((((accepted_f m parent (own_f slot l))[k2]!).choice) = 2))) rfl (fun hc16 => ?_) (fun hc16 => ?_)
      · have hp16 := hc16
        simp only [Bool.and_eq_true, Bool.or_eq_true, Bool.and_eq_false_iff, Bool.or_eq_false_iff, Bool.not_eq_true', Bool.not_eq_false', decide_eq_true_eq, decide_eq_false_iff_not] at hp16
        have hstep := by_yes (slot := slot) (A := (accepted_f m parent (own_f slot l))) (k := k2) (by omega) hc16
        have hnc17 := hM13_12.nc
        refine W.drawU (me := 14) (ex := 15) (es := 16) (l := by_f slot ((accepted_f m parent (own_f slot l)).take k2)) (a := ((⟨slot, ((accepted_f m parent (own_f slot l))[k2]!).round, ((accepted_f m parent (own_f slot l))[k2]!).choice, ((accepted_f m parent (own_f slot l))[k2]!).value⟩ : Oc) : Oc)) (v := ior (mget (by_f slot ((accepted_f m parent (own_f slot l)).take k2)) (⟨slot, ((accepted_f m parent (own_f slot l))[k2]!).round, ((accepted_f m parent (own_f slot l))[k2]!).choice, ((accepted_f m parent (own_f slot l))[k2]!).value⟩ : Oc)) (ishl 1 (((accepted_f m parent (own_f slot l))[k2]!).signer))) mp71 [(.map (some b9)), (.int .i64 slot), (.pointer (some ⟨b15, 2, none⟩)), (.int .i64 (((accepted_f m parent (own_f slot l))[k2]!).round)), (.pointer (some ⟨b15, 3, none⟩)), (.int .i64 (((accepted_f m parent (own_f slot l))[k2]!).choice)), (.pointer (some ⟨b15, 14, none⟩)), (Enc.val (((accepted_f m parent (own_f slot l))[k2]!).value)), (Enc.val (⟨slot, ((accepted_f m parent (own_f slot l))[k2]!).round, ((accepted_f m parent (own_f slot l))[k2]!).choice, ((accepted_f m parent (own_f slot l))[k2]!).value⟩ : Oc)), (.int .i64 (mget (by_f slot ((accepted_f m parent (own_f slot l)).take k2)) (⟨slot, ((accepted_f m parent (own_f slot l))[k2]!).round, ((accepted_f m parent (own_f slot l))[k2]!).choice, ((accepted_f m parent (own_f slot l))[k2]!).value⟩ : Oc))), (.pointer (some ⟨b15, 4, none⟩)), (.int .i64 (((accepted_f m parent (own_f slot l))[k2]!).signer)), (.int .i64 (ishl 1 (((accepted_f m parent (own_f slot l))[k2]!).signer))), (.int .i64 (ior (mget (by_f slot ((accepted_f m parent (own_f slot l)).take k2)) (⟨slot, ((accepted_f m parent (own_f slot l))[k2]!).round, ((accepted_f m parent (own_f slot l))[k2]!).choice, ((accepted_f m parent (own_f slot l))[k2]!).value⟩ : Oc)) (ishl 1 (((accepted_f m parent (own_f slot l))[k2]!).signer)))), undef, undef, undef] mixed (by rfl) hM13_12 ?_ rfl rfl rfl rfl rfl rfl rfl rfl rfl rfl rfl rfl (fun _ ho hd => ⟨hd 0 rfl rfl, hd 8 rfl rfl⟩) (fun _ ho hd => ⟨hd 0 rfl rfl, hd 13 rfl rfl⟩) ?_
        · refine VObls.cons ?_ (VObls.cons ?_ (VObls.cons ?_ (VObls.cons ?_ (VObls.cons ?_ (VObls.cons ?_ (VObls.cons ?_ (VObls.cons ?_ (VObls.cons ?_ (VObls.cons ?_ (VObls.cons ?_ (VObls.cons ?_ (VObls.cons ?_ (VObls.cons ?_ (VObls.cons (fun h => nomatch h) (VObls.cons (fun h => nomatch h) (VObls.cons (fun h => nomatch h) VObls.nil))))))))))))))))
          · intro _ f18 w18 hg18 ho18 hd18 hk18
            have d18_s12 : f18 12 = (.map (some b9)) := (ho18 12 rfl).trans s13_12
            exact ⟨rfl, (op_move rfl d18_s12), rfl⟩
          · intro _ f19 w19 hg19 ho19 hd19 hk19
            have d19_s3 : f19 3 = (.int .i64 slot) := (ho19 3 rfl).trans s13_3
            exact ⟨rfl, (op_move rfl d19_s3), rfl⟩
          · intro _ f20 w20 hg20 ho20 hd20 hk20
            have d20_s14 : f20 14 = (.pointer (some ⟨b15, 0, none⟩)) := ho20 14 rfl
            exact ⟨rfl, (op_field rfl d20_s14 fo28_2 rfl), rfl⟩
          · intro _ f21 w21 hg21 ho21 hd21 hk21
            have d21_2 : f21 58 = (.pointer (some ⟨b15, 2, none⟩)) := hd21 2 rfl rfl
            have hR_l := hR_l.farM hnc17 hg21; have hB1 := hB1.farM hnc17 hg21; have hO3_9 := hO3_9.farM hnc17 hg21; have hR10 := hR10.farM hnc17 hg21; have hR11 := hR11.farM hnc17 hg21; have hB15 := hB15.farM hnc17 hg21
            exact ⟨rfl, (op_load1 rfl d21_2 one3 (hB15.cells.one (n := 2) rfl)), rfl⟩
          · intro _ f22 w22 hg22 ho22 hd22 hk22
            have d22_s14 : f22 14 = (.pointer (some ⟨b15, 0, none⟩)) := ho22 14 rfl
            exact ⟨rfl, (op_field rfl d22_s14 fo28_3 rfl), rfl⟩
          · intro _ f23 w23 hg23 ho23 hd23 hk23
            have d23_4 : f23 60 = (.pointer (some ⟨b15, 3, none⟩)) := hd23 4 rfl rfl
            have hR_l := hR_l.farM hnc17 hg23; have hB1 := hB1.farM hnc17 hg23; have hO3_9 := hO3_9.farM hnc17 hg23; have hR10 := hR10.farM hnc17 hg23; have hR11 := hR11.farM hnc17 hg23; have hB15 := hB15.farM hnc17 hg23
            exact ⟨rfl, (op_load1 rfl d23_4 one3 (hB15.cells.one (n := 3) rfl)), rfl⟩
          · intro _ f24 w24 hg24 ho24 hd24 hk24
            have d24_s14 : f24 14 = (.pointer (some ⟨b15, 0, none⟩)) := ho24 14 rfl
            exact ⟨rfl, (op_field rfl d24_s14 fo28_7 rfl), rfl⟩
          · intro _ f25 w25 hg25 ho25 hd25 hk25
            have d25_6 : f25 62 = (.pointer (some ⟨b15, 14, none⟩)) := hd25 6 rfl rfl
            have hR_l := hR_l.farM hnc17 hg25; have hB1 := hB1.farM hnc17 hg25; have hO3_9 := hO3_9.farM hnc17 hg25; have hR10 := hR10.farM hnc17 hg25; have hR11 := hR11.farM hnc17 hg25; have hB15 := hB15.farM hnc17 hg25
            exact ⟨rfl, (op_load (v := (((accepted_f m parent (own_f slot l))[k2]!).value : Nm)) rfl d25_6 ty24 (sub_nm 14 hB15.cells rfl)), rfl⟩
          · intro _ f26 w26 hg26 ho26 hd26 hk26
            have d26_1 : f26 57 = (.int .i64 slot) := hd26 1 rfl rfl
            have d26_3 : f26 59 = (.int .i64 (((accepted_f m parent (own_f slot l))[k2]!).round)) := hd26 3 rfl rfl
            have d26_5 : f26 61 = (.int .i64 (((accepted_f m parent (own_f slot l))[k2]!).choice)) := hd26 5 rfl rfl
            have d26_7 : f26 63 = (Enc.val (((accepted_f m parent (own_f slot l))[k2]!).value)) := hd26 7 rfl rfl
            exact ⟨rfl, (op_build (v := Enc.val (⟨slot, ((accepted_f m parent (own_f slot l))[k2]!).round, ((accepted_f m parent (own_f slot l))[k2]!).choice, ((accepted_f m parent (own_f slot l))[k2]!).value⟩ : Oc)) (cs := Enc.cells (⟨slot, ((accepted_f m parent (own_f slot l))[k2]!).round, ((accepted_f m parent (own_f slot l))[k2]!).choice, ((accepted_f m parent (own_f slot l))[k2]!).value⟩ : Oc)) rfl (partsC d26_1 (partsC d26_3 (partsC d26_5 (partsC d26_7 partsN)))) (by kernel_rfl) rfl), rfl⟩
          · intro _ f27 w27 hg27 ho27 hd27 hk27
            have d27_0 : f27 56 = (.map (some b9)) := hd27 0 rfl rfl
            have d27_8 : f27 64 = (Enc.val (⟨slot, ((accepted_f m parent (own_f slot l))[k2]!).round, ((accepted_f m parent (own_f slot l))[k2]!).choice, ((accepted_f m parent (own_f slot l))[k2]!).value⟩ : Oc)) := hd27 8 rfl rfl
            obtain ⟨lq, hQ, hq⟩ := mu_read (a := ((⟨slot, ((accepted_f m parent (own_f slot l))[k2]!).round, ((accepted_f m parent (own_f slot l))[k2]!).choice, ((accepted_f m parent (own_f slot l))[k2]!).value⟩ : Oc) : Oc)) hM13_12.keys hk27 rfl
            exact ⟨rfl, op_lookupQ (a := ((⟨slot, ((accepted_f m parent (own_f slot l))[k2]!).round, ((accepted_f m parent (own_f slot l))[k2]!).choice, ((accepted_f m parent (own_f slot l))[k2]!).value⟩ : Oc) : Oc)) mp71 rfl d27_0 d27_8 hQ hq, rfl⟩
          · intro _ f28 w28 hg28 ho28 hd28 hk28
            have d28_s14 : f28 14 = (.pointer (some ⟨b15, 0, none⟩)) := ho28 14 rfl
            exact ⟨rfl, (op_field rfl d28_s14 fo28_4 rfl), rfl⟩
          · intro _ f29 w29 hg29 ho29 hd29 hk29
            have d29_10 : f29 66 = (.pointer (some ⟨b15, 4, none⟩)) := hd29 10 rfl rfl
            have hR_l := hR_l.farM hnc17 hg29; have hB1 := hB1.farM hnc17 hg29; have hO3_9 := hO3_9.farM hnc17 hg29; have hR10 := hR10.farM hnc17 hg29; have hR11 := hR11.farM hnc17 hg29; have hB15 := hB15.farM hnc17 hg29
            exact ⟨rfl, (op_load1 rfl d29_10 one3 (hB15.cells.one (n := 4) rfl)), rfl⟩
          · intro _ f30 w30 hg30 ho30 hd30 hk30
            have d30_11 : f30 67 = (.int .i64 (((accepted_f m parent (own_f slot l))[k2]!).signer)) := hd30 11 rfl rfl
            skip
            exact ⟨rfl, (op_shl rfl rfl d30_11 (by omega) (by omega)), rfl⟩
          · intro _ f31 w31 hg31 ho31 hd31 hk31
            have d31_9 : f31 65 = (.int .i64 (mget (by_f slot ((accepted_f m parent (own_f slot l)).take k2)) (⟨slot, ((accepted_f m parent (own_f slot l))[k2]!).round, ((accepted_f m parent (own_f slot l))[k2]!).choice, ((accepted_f m parent (own_f slot l))[k2]!).value⟩ : Oc))) := hd31 9 rfl rfl
            have d31_12 : f31 68 = (.int .i64 (ishl 1 (((accepted_f m parent (own_f slot l))[k2]!).signer))) := hd31 12 rfl rfl
            exact ⟨rfl, (op_ior rfl d31_9 d31_12), rfl⟩
        intro f32 w32 hg32 ho32 hr32 hM32
        have s0 : f32 0 = (.int .i64 m) := (ho32 0 rfl).trans s13_0
        have s3 : f32 3 = (.int .i64 slot) := (ho32 3 rfl).trans s13_3
        have s8 : f32 8 = (.slice none 0 0) := (ho32 8 rfl).trans s13_8
        have s12 : f32 12 = (.map (some b9)) := (ho32 12 rfl).trans s13_12
        have s14 : f32 14 = (.pointer (some ⟨b15, 0, none⟩)) := ho32 14 rfl
        have s42 : f32 42 = (.slice A11 (accepted_f m parent (own_f slot l)).length c11) := (ho32 42 rfl).trans s13_42
        have s43 : f32 43 = (.int .i64 ((accepted_f m parent (own_f slot l)).length : Int)) := (ho32 43 rfl).trans s13_43
        have s44 : f32 44 = (.int .i64 ((k2 : Nat) : Int)) := (ho32 44 rfl).trans s13_44
        have s45 : f32 45 = (.bool (decide (((k2 : Nat) : Int) < ((accepted_f m parent (own_f slot l)).length : Int)))) := ho32 45 rfl
        have s55 : f32 55 = (.bool ((decide ((((accepted_f m parent (own_f slot l))[k2]!).kind) = 4)) && (!decide ((((accepted_f m parent (own_f slot l))[k2]!).choice) = 2)))) := ho32 55 rfl
        have hnc32 := hM13_12.nc
        have hE := hE.grown hg32 (by intro k hk; cases hk; exact hbb9_hE)
        have hS2 := hS2.grown hg32 (by intro k hk; cases hk; exact hbb9_hS2)
        have hT13 := grown_trans hT13 hg32
        have hR_l := hR_l.farM hnc32 hg32
        have hB1 := hB1.farM hnc32 hg32
        have hO3_9 := hO3_9.farM hnc32 hg32
        have hR10 := hR10.farM hnc32 hg32
        have hR11 := hR11.farM hnc32 hg32
        have hB15 := hB15.farM hnc32 hg32
        refine blockF_nor ?_
        refine thenF_nor ?_
        refine W.region (by rfl) ?_
        refine L.val rfl (op_add (c := ((k2 + 1 : Nat) : Int)) rfl s44 rfl (by omega) (by omega)) ?_
        refine L.val rfl (op_move rfl rfl) ?_
        refine L.nil ?_
        refine thenF_nor ?_
        exact ⟨k2 + 1, ⟨(by (try dsimp only); omega), s0, s3, s8, s42, s43, rfl, s12, (by rw [← hstep]; exact hM32), hT13⟩, (by (try dsimp only); omega)⟩
      · have hp16 := hc16
        simp only [Bool.and_eq_true, Bool.or_eq_true, Bool.and_eq_false_iff, Bool.or_eq_false_iff, Bool.not_eq_true', Bool.not_eq_false', decide_eq_true_eq, decide_eq_false_iff_not] at hp16
        have hstep := by_no (slot := slot) (A := (accepted_f m parent (own_f slot l))) (k := k2) (by omega) hc16
        refine W.skip ?_
        refine blockF_nor ?_
        refine thenF_nor ?_
        refine W.region (by rfl) ?_
        refine L.val rfl (op_add (c := ((k2 + 1 : Nat) : Int)) rfl s13_44 rfl (by omega) (by omega)) ?_
        refine L.val rfl (op_move rfl rfl) ?_
        refine L.nil ?_
        refine thenF_nor ?_
        exact ⟨k2 + 1, ⟨(by (try dsimp only); omega), s13_0, s13_3, s13_8, s13_42, s13_43, rfl, s13_12, (by rw [← hstep]; exact hM13_12), hT13⟩, (by (try dsimp only); omega)⟩
    · have hp14 := hc14
      simp only [Bool.and_eq_true, Bool.or_eq_true, Bool.and_eq_false_iff, Bool.or_eq_false_iff, Bool.not_eq_true', Bool.not_eq_false', decide_eq_true_eq, decide_eq_false_iff_not] at hp14
      have hkl2 : k2 = (accepted_f m parent (own_f slot l)).length := by omega
      rw [hkl2, List.take_length] at hM13_12
      have hbl := by_len slot (accepted_f m parent (own_f slot l)) []
      change (by_f slot (accepted_f m parent (own_f slot l))).length ≤ _ at hbl
      simp only [List.length_nil, Nat.zero_add] at hbl
      refine W.exit ?_
      refine thenF_exit ?_
      refine thenF_exit ?_
      refine blockF_hit ?_
      refine thenF_nor ?_
      refine W.seq ?_
      have S33_hR_l := hR_l
      have S33_hB1 := hB1
      have S33_hO3_9 := hO3_9
      have S33_hR10 := hR10
      have S33_hR11 := hR11
      have S33_hM13_12 := hM13_12
      have S33_hE := hE
      have S33_hS2 := hS2
      have S33_hT13 := hT13
      have hS33 : Ext w13 w13 := Ext.refl _
      refine W.region (by rfl) ?_
      refine L.step rfl (op_alloc (z := (.slice none 0 0)) (cs := [(.slice none 0 0)]) rfl (by kernel_rfl) rfl) ?_
      rintro _ w34 ⟨b34, rfl, hb34, hB34, hx34⟩
      have hbb34_hE := Nat.le_trans hE.size hb34
      have hbb34_hS2 := Nat.le_trans hS2.size hb34
      have hbb34_hT13 := Nat.le_trans hT13.size hb34
      have hbb34_hS33 := Nat.le_trans hS33.size hb34
      have hE := hE.trans hx34
      have hS2 := hS2.trans hx34
      have hT13 := grown_ext hT13 hx34
      have hS33 := hS33.trans hx34
      have hR_l := hR_l.ext hx34
      have hB1 := hB1.ext hx34
      have hO3_9 := hO3_9.ext hx34
      have hR10 := hR10.ext hx34
      have hR11 := hR11.ext hx34
      have hM13_12 := hM13_12.ext hx34
      refine L.nil ?_
      refine thenF_nor ?_
      refine W.seq ?_
      refine W.seq ?_
      refine W.region (by rfl) ?_
      refine L.val rfl (op_move rfl s13_12) ?_
      refine L.step rfl (op_range rfl Try.underlying71 rfl hM13_12) ?_
      rintro _ w35 ⟨b35, rfl, hb35, hG35, hx35⟩
      have hbb35_hE := Nat.le_trans hE.size hb35
      have hbb35_hS2 := Nat.le_trans hS2.size hb35
      have hbb35_hT13 := Nat.le_trans hT13.size hb35
      have hbb35_hS33 := Nat.le_trans hS33.size hb35
      have hE := hE.trans hx35
      have hS2 := hS2.trans hx35
      have hT13 := grown_ext hT13 hx35
      have hS33 := hS33.trans hx35
      have hR_l := hR_l.ext hx35
      have hB1 := hB1.ext hx35
      have hO3_9 := hO3_9.ext hx35
      have hR10 := hR10.ext hx35
      have hR11 := hR11.ext hx35
      have hM13_12 := hM13_12.ext hx35
      have hB34 := hB34.ext hx35
      refine L.nil ?_
      refine thenF_nor ?_
      refine W.block ?_
      refine W.loopg (γ := List (Oc × Int)) (fun (done : List (Oc × Int)) (f : Fr) (ww : World) => f 0 = (.int .i64 m) ∧ f 8 = (.slice none 0 0) ∧ f 15 = (.pointer (some ⟨b34, 0, none⟩)) ∧ (∃ vv, Box ww b34 37 [vv] ∧ Fk.Own ww (b34 + 1) 49 vv ((done.filter (outP m)).map Prod.fst)) ∧ f 74 = (.pointer (some ⟨b35, 0, none⟩)) ∧ Rg ww b9 b35 (by_f slot (accepted_f m parent (own_f slot l))) done ∧ Ext w13 ww) (fun (done : List (Oc × Int)) => (by_f slot (accepted_f m parent (own_f slot l))).length - done.length) ([] : List (Oc × Int)) ⟨s13_0, s13_8, rfl, ⟨_, hB34, Fk.Own.nil _ _ _⟩, rfl, hG35, hS33⟩ ?_
      rintro done f36 w36 ⟨s36_0, s36_8, s36_15, hM36_15, s36_74, hG36_74, hS33⟩
      have hR_l := S33_hR_l.ext hS33
      have hB1 := S33_hB1.ext hS33
      have hO3_9 := S33_hO3_9.ext hS33
      have hR10 := S33_hR10.ext hS33
      have hR11 := S33_hR11.ext hS33
      have hM13_12 := S33_hM13_12.ext hS33
      have hE := S33_hE.trans hS33
      have hS2 := S33_hS2.trans hS33
      have hT13 := grown_ext S33_hT13 hS33
      obtain ⟨v36_15, hB36_15, hO36_15⟩ := hM36_15
      have hfl := List.length_filter_le (outP m) done
      have hml : ((done.filter (outP m)).map Prod.fst).length = (done.filter (outP m)).length := List.length_map _
      have hgl0 := hG36_74.len
      refine W.seq ?_
      refine W.region (by rfl) ?_
      refine L.step rfl (op_nextE rfl s36_74 hG36_74) ?_
      rintro _ w37 (⟨rfl, hpm37, hx37⟩ | ⟨p37, hpl37, hpn37, rfl, hG37, hg37, hsz37⟩)
      · have hE := hE.trans hx37
        have hS2 := hS2.trans hx37
        have hT13 := grown_ext hT13 hx37
        have hS33 := hS33.trans hx37
        have hR_l := hR_l.ext hx37
        have hB1 := hB1.ext hx37
        have hO3_9 := hO3_9.ext hx37
        have hR10 := hR10.ext hx37
        have hR11 := hR11.ext hx37
        have hM13_12 := hM13_12.ext hx37
        have hG36_74 := hG36_74.ext hx37
        have hB36_15 := hB36_15.ext hx37
        have hO36_15 := hO36_15.ext hx37
        refine L.val (v := (.bool false)) rfl (op_extract rfl rfl rfl) ?_
        refine L.nil ?_
        refine thenF_nor ?_
        refine W.seq ?_
        refine W.cond (t := false) rfl (fun h => nomatch h) (fun _ => ?_)
        refine W.exit ?_
        refine thenF_exit ?_
        refine thenF_exit ?_
        refine blockF_hit ?_
        refine thenF_nor ?_
        refine W.seq ?_
        obtain ⟨A38, c38, hv38, hR38, hcap38⟩ := (hO36_15).form
        have hlen38 := hR38.len
        have hBs38 := hB36_15
        rw [hv38] at hBs38
        refine W.region (by rfl) ?_
        refine L.val rfl (op_load1 rfl s36_15 one37 (hBs38.cells.one (n := 0) rfl)) ?_
        refine L.val rfl (op_iface rfl rfl (by kernel_rfl)) ?_
        refine L.val rfl (op_func rfl (argsC s36_15 argsN)) ?_
        have hOs38 := hO36_15
        rw [hv38] at hOs38
        refine L.step rfl (OpS.call (op_call rfl (argsC rfl (argsC rfl argsN)) Try.func60 rfl rfl) (sortSlice_ok st37 before_swo hOs38 (by omega) (fun blk eA => by subst eA; exact lessOk_box Try.func61 rfl rfl outcomes1_ok hBs38 (by have hh := hOs38.lt blk rfl; omega) hlen38))) ?_
        rintro _ w39 ⟨rfl, ls39, hpm39, hsl39, hso39, hR39, hg39⟩
        have hBz39 := hBs38.far hg39 (hOs38.ne' (Nat.lt_succ_self _))
        have hS33 := hS33.own (hOs38.lower (by omega)) hg39
        rw [← hsl39] at hBz39
        have hlen39 := hR39.len
        have hR_l := S33_hR_l.ext hS33
        have hB1 := S33_hB1.ext hS33
        have hO3_9 := S33_hO3_9.ext hS33
        have hR10 := S33_hR10.ext hS33
        have hR11 := S33_hR11.ext hS33
        have hM13_12 := S33_hM13_12.ext hS33
        have hE := S33_hE.trans hS33
        have hS2 := S33_hS2.trans hS33
        have hT13 := grown_ext S33_hT13 hS33
        refine L.nil ?_
        refine thenF_nor ?_
        refine W.seq ?_
        refine W.region (by rfl) ?_
        refine L.val rfl (op_load1 rfl s36_15 one37 (hBz39.cells.one (n := 0) rfl)) ?_
        refine L.val rfl (op_assign rfl rfl) ?_
        refine L.nil ?_
        refine thenF_nor ?_
        refine W.ret ?_
        exact end_ret1 (v := (.slice A38 ls39.length c38)) rfl rfl ⟨(by have hdd := outcomes_eq (m := m) (slot := slot) (A := (accepted_f m parent (own_f slot l))) hpm37 hpm39 hso39; unfold outcomes_f; rw [← hdd]; exact (⟨_, _, _, _, rfl, (Nat.le_trans (Nat.le_of_eq hsl39) hcap38), hR39⟩ : SlR _ _ _)), hE⟩
      · have hnc37 := hG36_74.nc
        have hE := hE.grown hg37 (by intro k hk; cases hk; exact hbb35_hE)
        have hS2 := hS2.grown hg37 (by intro k hk; cases hk; exact hbb35_hS2)
        have hT13 := grown_new hT13 hg37 (by intro k hk; cases hk; exact hbb35_hT13)
        have hS33 := hS33.grown hg37 (by intro k hk; cases hk; exact hbb35_hS33)
        have hR_l := hR_l.farM hnc37 hg37
        have hB1 := hB1.farM hnc37 hg37
        have hO3_9 := hO3_9.farM hnc37 hg37
        have hR10 := hR10.farM hnc37 hg37
        have hR11 := hR11.farM hnc37 hg37
        have hM13_12 := hM13_12.farG hG36_74 hg37
        have hB36_15 := hB36_15.farM hnc37 hg37
        have hO36_15 := hO36_15.farM hnc37 hg37
        refine L.val (v := (.bool true)) rfl (op_extract rfl rfl rfl) ?_
        refine L.nil ?_
        refine thenF_nor ?_
        refine W.seq ?_
        refine W.cond (t := true) rfl (fun _ => ?_) (fun h => nomatch h)
        refine W.skip ?_
        refine thenF_nor ?_
        refine W.block ?_
        refine W.seq ?_
        refine W.region (by rfl) ?_
        refine L.val rfl (op_entry rfl s36_74 hG37) ?_
        refine L.val rfl (op_extract rfl rfl rfl) ?_
        refine L.val rfl (op_extract rfl rfl rfl) ?_
        refine L.newvar (v := (Enc.val (p37.1 : Oc))) (cs := (Enc.cells (p37.1 : Oc))) rfl rfl rfl rfl rfl rfl (fun _ => rfl) rfl si49 zs49 (Enc.one _) ?_
        intro b40 w40 hb40 hB40 hx40
        have hbb40_hE := Nat.le_trans hE.size hb40
        have hbb40_hS2 := Nat.le_trans hS2.size hb40
        have hbb40_hT13 := Nat.le_trans hT13.size hb40
        have hbb40_hS33 := Nat.le_trans hS33.size hb40
        have hE := hE.trans hx40
        have hS2 := hS2.trans hx40
        have hT13 := grown_ext hT13 hx40
        have hS33 := hS33.trans hx40
        have hR_l := hR_l.ext hx40
        have hB1 := hB1.ext hx40
        have hO3_9 := hO3_9.ext hx40
        have hR10 := hR10.ext hx40
        have hR11 := hR11.ext hx40
        have hM13_12 := hM13_12.ext hx40
        have hB36_15 := hB36_15.ext hx40
        have hO36_15 := hO36_15.ext hx40
        have hG37 := hG37.ext hx40
        refine L.val rfl (op_assign rfl rfl) ?_
        refine L.nil ?_
        refine thenF_nor ?_
        refine W.seq ?_
        refine W.region (by rfl) ?_
        refine L.val rfl (op_move rfl rfl) ?_
        refine L.call (v := (.int .i64 (size_f p37.2))) rfl (OpS.call (op_call rfl (argsC rfl argsN) Try.func29 rfl rfl) Size_ok) ?_
        intro w41 hx41
        have hE := hE.trans hx41
        have hS2 := hS2.trans hx41
        have hT13 := grown_ext hT13 hx41
        have hS33 := hS33.trans hx41
        have hR_l := hR_l.ext hx41
        have hB1 := hB1.ext hx41
        have hO3_9 := hO3_9.ext hx41
        have hR10 := hR10.ext hx41
        have hR11 := hR11.ext hx41
        have hM13_12 := hM13_12.ext hx41
        have hB36_15 := hB36_15.ext hx41
        have hO36_15 := hO36_15.ext hx41
        have hG37 := hG37.ext hx41
        have hB40 := hB40.ext hx41
        refine L.val rfl (op_move rfl s36_0) ?_
        refine L.call (v := (.int .i64 (size_f m))) rfl (OpS.call (op_call rfl (argsC rfl argsN) Try.func29 rfl rfl) Size_ok) ?_
        intro w42 hx42
        have hE := hE.trans hx42
        have hS2 := hS2.trans hx42
        have hT13 := grown_ext hT13 hx42
        have hS33 := hS33.trans hx42
        have hR_l := hR_l.ext hx42
        have hB1 := hB1.ext hx42
        have hO3_9 := hO3_9.ext hx42
        have hR10 := hR10.ext hx42
        have hR11 := hR11.ext hx42
        have hM13_12 := hM13_12.ext hx42
        have hB36_15 := hB36_15.ext hx42
        have hO36_15 := hO36_15.ext hx42
        have hG37 := hG37.ext hx42
        have hB40 := hB40.ext hx42
        refine L.call (v := (.int .i64 (quorum_f (size_f m)))) rfl (OpS.call (op_call rfl (argsC rfl argsN) Try.func31 rfl rfl) (Quorum_ok (by first | omega | (simp only [List.length_drop, List.length_take, List.length_append, List.length_cons, List.length_nil] at *; omega)) (by first | omega | (simp only [List.length_drop, List.length_take, List.length_append, List.length_cons, List.length_nil] at *; omega)))) ?_
        intro w43 hx43
        have hE := hE.trans hx43
        have hS2 := hS2.trans hx43
        have hT13 := grown_ext hT13 hx43
        have hS33 := hS33.trans hx43
        have hR_l := hR_l.ext hx43
        have hB1 := hB1.ext hx43
        have hO3_9 := hO3_9.ext hx43
        have hR10 := hR10.ext hx43
        have hR11 := hR11.ext hx43
        have hM13_12 := hM13_12.ext hx43
        have hB36_15 := hB36_15.ext hx43
        have hO36_15 := hO36_15.ext hx43
        have hG37 := hG37.ext hx43
        have hB40 := hB40.ext hx43
        refine L.val rfl (op_geq rfl rfl rfl) ?_
        refine L.nil ?_
        refine thenF_nor ?_
        refine W.cond (t := decide ((quorum_f (size_f m)) ≤ (size_f p37.2))) rfl (fun hc44 => ?_) (fun hc44 => ?_)
        · have hp44 := hc44
          simp only [Bool.and_eq_true, Bool.or_eq_true, Bool.and_eq_false_iff, Bool.or_eq_false_iff, Bool.not_eq_true', Bool.not_eq_false', decide_eq_true_eq, decide_eq_false_iff_not] at hp44
          have hstep := outs_yes (keep := (outP m)) (done := done) (p := p37) hc44
          refine W.region (by rfl) ?_
          refine L.val rfl (op_load1 rfl s36_15 one37 (hB36_15.cells.one (n := 0) rfl)) ?_
          refine L.val rfl (op_load (v := (p37.1 : Oc)) rfl rfl ty49 hB40.cells) ?_
          refine L.step rfl (op_slice1 (a := (p37.1 : Oc)) rfl rfl sl37 zs49 (by decide)) ?_
          rintro _ w45 ⟨b45, rfl, hb45, hB45, hx45⟩
          have hE := hE.trans hx45
          have hS2 := hS2.trans hx45
          have hT13 := grown_ext hT13 hx45
          have hS33 := hS33.trans hx45
          have hR_l := hR_l.ext hx45
          have hB1 := hB1.ext hx45
          have hO3_9 := hO3_9.ext hx45
          have hR10 := hR10.ext hx45
          have hR11 := hR11.ext hx45
          have hM13_12 := hM13_12.ext hx45
          have hB36_15 := hB36_15.ext hx45
          have hO36_15 := hO36_15.ext hx45
          have hG37 := hG37.ext hx45
          have hB40 := hB40.ext hx45
          refine L.step rfl (op_append (a := (p37.1 : Oc)) (ad := ⟨b45, 0, none⟩) rfl rfl rfl sl37 zs49 bt49 hO36_15 hB45.cells (by omega) (by decide) (Nat.succ_le_of_lt hB36_15.lt)) ?_
          rintro v46 w46 ⟨hO46, hg46⟩
          have hS33 := hS33.own (hO36_15.lower (by omega)) hg46
          have hG37 := hG37.farO hO36_15 hg46
          have hB36_15 := hB36_15.far hg46 (hO36_15.ne' (Nat.lt_succ_self _))
          have hR_l := S33_hR_l.ext hS33
          have hB1 := S33_hB1.ext hS33
          have hO3_9 := S33_hO3_9.ext hS33
          have hR10 := S33_hR10.ext hS33
          have hR11 := S33_hR11.ext hS33
          have hM13_12 := S33_hM13_12.ext hS33
          have hE := S33_hE.trans hS33
          have hS2 := S33_hS2.trans hS33
          have hT13 := grown_ext S33_hT13 hS33
          refine L.step rfl (op_put (v := v46) rfl s36_15 rfl si37 hB36_15 (Nat.le_of_ble_eq_true rfl) hO46.cells hO46.onec) ?_
          rintro _ w47 ⟨hB47, hg47⟩
          have hO46 := (hO46).kept hg47 (hO46.ne (Nat.lt_succ_self _))
          have hS33 := hS33.grown hg47 (by intro k hk; cases hk; omega)
          have hG37 := hG37.farB hB36_15 hg47
          have hR_l := S33_hR_l.ext hS33
          have hB1 := S33_hB1.ext hS33
          have hO3_9 := S33_hO3_9.ext hS33
          have hR10 := S33_hR10.ext hS33
          have hR11 := S33_hR11.ext hS33
          have hM13_12 := S33_hM13_12.ext hS33
          have hE := S33_hE.trans hS33
          have hS2 := S33_hS2.trans hS33
          have hT13 := grown_ext S33_hT13 hS33
          have hB36_15 := hB47
          refine L.nil ?_
          refine blockF_nor ?_
          refine thenF_nor ?_
          exact ⟨(done ++ [p37]), ⟨s36_0, s36_8, s36_15, (by rw [← hstep]; exact ⟨_, hB36_15, hO46⟩), s36_74, hG37, hS33⟩, (by have hgl := hG37.len; simp only [List.length_append, List.length_cons, List.length_nil] at hgl ⊢; omega)⟩
        · have hp44 := hc44
          simp only [Bool.and_eq_true, Bool.or_eq_true, Bool.and_eq_false_iff, Bool.or_eq_false_iff, Bool.not_eq_true', Bool.not_eq_false', decide_eq_true_eq, decide_eq_false_iff_not] at hp44
          have hstep := outs_no (keep := (outP m)) (done := done) (p := p37) hc44
          refine W.skip ?_
          refine blockF_nor ?_
          refine thenF_nor ?_
          exact ⟨(done ++ [p37]), ⟨s36_0, s36_8, s36_15, (by rw [← hstep]; exact ⟨_, hB36_15, hO36_15⟩), s36_74, hG37, hS33⟩, (by have hgl := hG37.len; simp only [List.length_append, List.length_cons, List.length_nil] at hgl ⊢; omega)⟩

set_option maxRecDepth 100000 in
theorem Decided_ok {m : Int} {parent : Nm} {A_l : Option Addr} {c_l lo_l hi_l : Nat} {l : List Vt} {o : Oc}  {w : World} (hR_l : Rd w lo_l hi_l A_l l) (hl : l.length ≤ 1000000) : Gives Try.prog 35 #[(.int .i64 m), (Enc.val (parent : Nm)), (.slice A_l l.length c_l), (Enc.val (o : Oc))] w fun u w' => u = (.bool (decided_f m parent l o)) ∧ Ext w w' := by
  have hE : Ext w w := Ext.refl w
  have hlen_l := hR_l.len
  refine gives_of_W Try.func35 rfl Try.ntmps35 rfl ?_
  refine W.seq ?_
  refine W.region (by rfl) ?_
  refine L.step rfl (op_box (cs := (Enc.cells (parent : Nm))) rfl rfl rfl) ?_
  rintro _ w1 ⟨b1, rfl, hb1, hB1, hx1⟩
  have hE := hE.trans hx1
  have hR_l := hR_l.ext hx1
  refine L.step rfl (op_box (cs := (Enc.cells (o : Oc))) rfl rfl rfl) ?_
  rintro _ w2 ⟨b2, rfl, hb2, hB2, hx2⟩
  have hE := hE.trans hx2
  have hR_l := hR_l.ext hx2
  have hB1 := hB1.ext hx2
  refine L.val (v := (.bool false)) rfl (op_assign rfl rfl) ?_
  refine L.nil ?_
  refine thenF_nor ?_
  refine W.seq ?_
  refine W.seq ?_
  refine W.region (by rfl) ?_
  refine L.val rfl (op_move rfl rfl) ?_
  refine L.val rfl (op_load (v := (parent : Nm)) rfl rfl ty24 hB1.cells) ?_
  refine L.val rfl (op_move rfl rfl) ?_
  refine L.val rfl (op_field rfl rfl fo49_0 rfl) ?_
  refine L.val rfl (op_load1 rfl rfl one3 (hB2.cells.one (n := 0) rfl)) ?_
  refine L.step rfl (OpS.call (op_call rfl (argsC rfl (argsC rfl (argsC rfl (argsC rfl argsN)))) Try.func26 rfl rfl) (Outcomes_ok hR_l (by first | omega | (simp only [List.length_drop, List.length_take, List.length_append, List.length_cons, List.length_nil] at *; omega)))) ?_
  rintro _ w3 ⟨⟨A3, c3, lo3, hi3, rfl, hcap3, hR3⟩, hx3⟩
  have hE := hE.trans hx3
  have hR_l := hR_l.ext hx3
  have hB1 := hB1.ext hx3
  have hB2 := hB2.ext hx3
  have hlen3 := hR3.len
  refine L.val rfl (op_len rfl rfl ln37) ?_
  refine L.val rfl (op_move rfl rfl) ?_
  refine L.nil ?_
  refine thenF_nor ?_
  refine W.block ?_
  have S4_hR_l := hR_l
  have S4_hB1 := hB1
  have S4_hB2 := hB2
  have S4_hR3 := hR3
  have S4_hE := hE
  have hS4 : Ext w3 w3 := Ext.refl _
  refine W.loopg (γ := Nat) (fun (k : Nat) (f : Fr) (ww : World) => k ≤ (outcomes_f m parent l o.slot).length ∧ ((outcomes_f m parent l o.slot).drop k).any (fun d => decide (d = o)) = (outcomes_f m parent l o.slot).any (fun d => decide (d = o)) ∧ f 7 = (.pointer (some ⟨b2, 0, none⟩)) ∧ f 16 = (.slice A3 (outcomes_f m parent l o.slot).length c3) ∧ f 17 = (.int .i64 ((outcomes_f m parent l o.slot).length : Int)) ∧ f 18 = (.int .i64 ((k : Nat) : Int)) ∧ Ext w3 ww) (fun (k : Nat) => (outcomes_f m parent l o.slot).length - k) 0 ⟨(by (try dsimp only); omega), rfl, rfl, rfl, rfl, rfl, hS4⟩ ?_
  rintro k f5 w5 ⟨hk, hany, s5_7, s5_16, s5_17, s5_18, hS4⟩
  have hR_l := S4_hR_l.ext hS4
  have hB1 := S4_hB1.ext hS4
  have hB2 := S4_hB2.ext hS4
  have hR3 := S4_hR3.ext hS4
  have hE := S4_hE.trans hS4
  refine W.seq ?_
  refine W.region (by rfl) ?_
  refine L.val rfl (op_lss rfl s5_18 s5_17) ?_
  refine L.nil ?_
  refine thenF_nor ?_
  refine W.seq ?_
  refine W.cond (t := decide (((k : Nat) : Int) < ((outcomes_f m parent l o.slot).length : Int))) rfl (fun hc6 => ?_) (fun hc6 => ?_)
  · have hp6 := hc6
    simp only [Bool.and_eq_true, Bool.or_eq_true, Bool.and_eq_false_iff, Bool.or_eq_false_iff, Bool.not_eq_true', Bool.not_eq_false', decide_eq_true_eq, decide_eq_false_iff_not] at hp6
    refine W.skip ?_
    refine thenF_nor ?_
    refine W.seq ?_
    refine W.block ?_
    refine W.seq ?_
    refine W.region (by rfl) ?_
    refine L.val rfl (op_index (k := k) rfl s5_16 s5_18 sl37 (hR3.getA (get_bang (l := outcomes_f m parent l o.slot) (k := k) (by omega))).1 rfl (by omega) rfl) ?_
    refine L.val rfl (op_load (v := (outcomes_f m parent l o.slot)[k]!) rfl rfl ty49 (hR3.getA (get_bang (l := outcomes_f m parent l o.slot) (k := k) (by omega))).2) ?_
    refine L.newvar (v := (Enc.val ((outcomes_f m parent l o.slot)[k]!))) (cs := (Enc.cells (outcomes_f m parent l o.slot)[k]!)) rfl rfl rfl rfl rfl rfl (fun _ => rfl) rfl si49 zs49 (Enc.one _) ?_
    intro b7 w7 hb7 hB7 hx7
    have hbb7_hE := Nat.le_trans hE.size hb7
    have hbb7_hS4 := Nat.le_trans hS4.size hb7
    have hE := hE.trans hx7
    have hS4 := hS4.trans hx7
    have hR_l := hR_l.ext hx7
    have hB1 := hB1.ext hx7
    have hB2 := hB2.ext hx7
    have hR3 := hR3.ext hx7
    refine L.nil ?_
    refine thenF_nor ?_
    refine W.seq ?_
    refine W.region (by rfl) ?_
    refine L.val rfl (op_load (v := (outcomes_f m parent l o.slot)[k]!) rfl rfl ty49 hB7.cells) ?_
    refine L.val rfl (op_load (v := (o : Oc)) rfl s5_7 ty49 hB2.cells) ?_
    refine L.val rfl (op_eqle (a := ((outcomes_f m parent l o.slot)[k]! : Oc)) (b := (o : Oc)) rfl rfl rfl eq49 (fun _ => ⟨_, rfl⟩) Try.eqGuardType49) ?_
    refine L.nil ?_
    refine thenF_nor ?_
    refine W.cond (t := decide ((outcomes_f m parent l o.slot)[k]! = o)) rfl (fun hc8 => ?_) (fun hc8 => ?_)
    · have hp8 := hc8
      simp only [Bool.and_eq_true, Bool.or_eq_true, Bool.and_eq_false_iff, Bool.or_eq_false_iff, Bool.not_eq_true', Bool.not_eq_false', decide_eq_true_eq, decide_eq_false_iff_not] at hp8
      have hyes := hc8
      have hres := any_yes (p := fun d => decide (d = o)) hany (by omega) hyes
      refine W.seq ?_
      refine W.region (by rfl) ?_
      refine L.val (v := (.bool true)) rfl (op_assign rfl rfl) ?_
      refine L.nil ?_
      refine thenF_nor ?_
      refine W.ret ?_
      refine blockF_ret ?_
      refine thenF_ret ?_
      refine thenF_ret ?_
      refine blockF_ret ?_
      refine thenF_ret ?_
      exact end_ret1 (v := (.bool true)) rfl rfl ⟨(by unfold decided_f; rw [← hres]), hE⟩
    · have hp8 := hc8
      simp only [Bool.and_eq_true, Bool.or_eq_true, Bool.and_eq_false_iff, Bool.or_eq_false_iff, Bool.not_eq_true', Bool.not_eq_false', decide_eq_true_eq, decide_eq_false_iff_not] at hp8
      have hno := hc8
      refine W.skip ?_
      refine blockF_nor ?_
      refine thenF_nor ?_
      refine W.region (by rfl) ?_
      refine L.val rfl (op_add (c := ((k + 1 : Nat) : Int)) rfl s5_18 rfl (by omega) (by omega)) ?_
      refine L.val rfl (op_move rfl rfl) ?_
      refine L.nil ?_
      refine thenF_nor ?_
      exact ⟨k + 1, ⟨(by (try dsimp only); omega), (any_go hany (by omega) hno), s5_7, s5_16, s5_17, rfl, hS4⟩, (by (try dsimp only); omega)⟩
  · have hp6 := hc6
    simp only [Bool.and_eq_true, Bool.or_eq_true, Bool.and_eq_false_iff, Bool.or_eq_false_iff, Bool.not_eq_true', Bool.not_eq_false', decide_eq_true_eq, decide_eq_false_iff_not] at hp6
    have hres := any_end hany (by omega)
    refine W.exit ?_
    refine thenF_exit ?_
    refine thenF_exit ?_
    refine blockF_hit ?_
    refine thenF_nor ?_
    refine W.seq ?_
    refine W.region (by rfl) ?_
    refine L.val (v := (.bool false)) rfl (op_assign rfl rfl) ?_
    refine L.nil ?_
    refine thenF_nor ?_
    refine W.ret ?_
    exact end_ret1 (v := (.bool false)) rfl rfl ⟨(by unfold decided_f; rw [← hres]), hE⟩

end Go.Proofs.Ytdknjfmjddlphaa
