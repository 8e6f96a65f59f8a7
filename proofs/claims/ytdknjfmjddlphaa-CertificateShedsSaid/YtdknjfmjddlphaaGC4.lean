/-
  Contracts of functions of the program, each with its walk in the logic of frames. Printed by a program of this session (wip/gen) from the translation.
-/
import Derived.Test.YtdknjfmjddlphaaCert2
import Derived.Test.YtdknjfmjddlphaaDrawB
set_option linter.unusedSimpArgs false
set_option linter.unusedVariables false
namespace Go.Proofs.Ytdknjfmjddlphaa
open Go Go.Fk

set_option maxRecDepth 100000 in
set_option maxHeartbeats 16000000 in
theorem Closure_ok {m : Int} {parent : Nm} {A_l : Option Addr} {c_l lo_l hi_l : Nat} {l : List Vt} {o : Oc}  {w : World} (hR_l : Rd w lo_l hi_l A_l l) (hl : l.length ≤ 1000000) : Gives Try.prog 47 #[(.int .i64 m), (Enc.val (parent : Nm)), (.slice A_l l.length c_l), (Enc.val (o : Oc))] w fun u w' => (∃ s, u = .tuple #[s, .bool (decided_f m parent l o)] ∧ SlR w' s (closure_f m parent l o : List Vt)) ∧ Ext w w' := by
  have hE : Ext w w := Ext.refl w
  have hlen_l := hR_l.len
  refine gives_of_W Try.func47 rfl Try.ntmps47 rfl ?_
  have hsz0 := size_nn m
  have hsz1 := size_le m
  have hal := acc_len m parent l
  have hisl := slot_len m parent l o.slot
  have hidl := ids_len m
  refine W.seq ?_
  refine W.region (by rfl) ?_
  refine L.step rfl (op_box (cs := (Enc.cells (parent : Nm))) rfl rfl rfl) ?_
  rintro _ w1 ⟨b1, rfl, hb1, hB1, hx1⟩
  have hE := hE.trans hx1
  have hR_l := hR_l.ext hx1
  refine L.step rfl (op_box (cs := (Enc.cells (o : Oc))) rfl rfl rfl) ?_
  rintro _ w2 ⟨b2, rfl, hb2, hB2, hx2⟩
  have hE := hE.trans hx2
  have hR_l := hR_l.ext hx2
  have hB1 := hB1.ext hx2
  refine L.val rfl (op_assign rfl rfl) ?_
  refine L.val (v := (.bool false)) rfl (op_assign rfl rfl) ?_
  refine L.nil ?_
  refine thenF_nor ?_
  refine W.seq ?_
  refine W.seq ?_
  refine W.region (by rfl) ?_
  refine L.val rfl (op_move rfl rfl) ?_
  refine L.val rfl (op_load (v := (parent : Nm)) rfl rfl ty24 hB1.cells) ?_
  refine L.val rfl (op_move rfl rfl) ?_
  refine L.val rfl (op_load (v := (o : Oc)) rfl rfl ty49 hB2.cells) ?_
  refine L.call (v := (.bool (decided_f m parent l o))) rfl (OpS.call (op_call rfl (argsC rfl (argsC rfl (argsC rfl (argsC rfl argsN)))) Try.func35 rfl rfl) (Decided_ok hR_l (by first | omega | (simp only [List.length_drop, List.length_take, List.length_append, List.length_cons, List.length_nil] at *; omega)))) ?_
  intro w3 hx3
  have hE := hE.trans hx3
  have hR_l := hR_l.ext hx3
  have hB1 := hB1.ext hx3
  have hB2 := hB2.ext hx3
  refine L.val rfl (op_not rfl rfl) ?_
  refine L.nil ?_
  refine thenF_nor ?_
  refine W.cond (t := !(decided_f m parent l o)) rfl (fun hc4 => ?_) (fun hc4 => ?_)
  · have hp4 := hc4
    simp only [Bool.and_eq_true, Bool.or_eq_true, Bool.and_eq_false_iff, Bool.or_eq_false_iff, Bool.not_eq_true', Bool.not_eq_false', decide_eq_true_eq, decide_eq_false_iff_not] at hp4
    have hnodec := hc4
    simp only [Bool.not_eq_true'] at hnodec
    refine W.seq ?_
    refine W.region (by rfl) ?_
    refine L.val rfl (op_assign rfl rfl) ?_
    refine L.val (v := (.bool false)) rfl (op_assign rfl rfl) ?_
    refine L.nil ?_
    refine thenF_nor ?_
    refine W.ret ?_
    refine thenF_ret ?_
    exact end_ret2 (v := (.slice none 0 0)) (v' := (.bool false)) rfl rfl rfl ⟨⟨_, (by rw [hnodec]), (by unfold closure_f; rw [hnodec]; exact SlR.nil _)⟩, hE⟩
  · have hp4 := hc4
    simp only [Bool.and_eq_true, Bool.or_eq_true, Bool.and_eq_false_iff, Bool.or_eq_false_iff, Bool.not_eq_true', Bool.not_eq_false', decide_eq_true_eq, decide_eq_false_iff_not] at hp4
    have hdec := hc4
    simp only [Bool.not_eq_false'] at hdec
    refine W.skip ?_
    refine thenF_nor ?_
    refine W.seq ?_
    have S5_hR_l := hR_l
    have S5_hB1 := hB1
    have S5_hB2 := hB2
    have S5_hE := hE
    have hS5 : Ext w3 w3 := Ext.refl _
    refine W.region (by rfl) ?_
    refine L.val rfl (op_move rfl rfl) ?_
    refine L.step rfl (op_makeMap Vt rfl) ?_
    rintro _ w6 ⟨b6, rfl, hb6, hM6, hx6⟩
    have hbb6_hE := Nat.le_trans hE.size hb6
    have hbb6_hS5 := Nat.le_trans hS5.size hb6
    have hE := hE.trans hx6
    have hS5 := hS5.trans hx6
    have hR_l := hR_l.ext hx6
    have hB1 := hB1.ext hx6
    have hB2 := hB2.ext hx6
    refine L.step rfl (op_makeMap Vt rfl) ?_
    rintro _ w7 ⟨b7, rfl, hb7, hM7, hx7⟩
    have hbb7_hE := Nat.le_trans hE.size hb7
    have hbb7_hS5 := Nat.le_trans hS5.size hb7
    have hne_b7_b6 : b7 ≠ b6 := by have := hM6.lt; omega
    have hne_b6_b7 := Ne.symm hne_b7_b6
    have hE := hE.trans hx7
    have hS5 := hS5.trans hx7
    have hR_l := hR_l.ext hx7
    have hB1 := hB1.ext hx7
    have hB2 := hB2.ext hx7
    have hM6 := hM6.ext hx7
    refine L.val rfl (op_build (v := (.agg #[(.int .i64 m), (.slice none 0 0), (.map (some b6)), (.map (some b7))])) (cs := [(.int .i64 m), (.slice none 0 0), (.map (some b6)), (.map (some b7))]) rfl (partsC rfl (partsC rfl (partsC rfl partsN))) (by kernel_rfl) rfl) ?_
    refine L.step rfl (op_box (cs := [(.int .i64 m), (.slice none 0 0), (.map (some b6)), (.map (some b7))]) rfl rfl rfl) ?_
    rintro _ w8 ⟨b8, rfl, hb8, hB8, hx8⟩
    have hbb8_hE := Nat.le_trans hE.size hb8
    have hbb8_hS5 := Nat.le_trans hS5.size hb8
    have hE := hE.trans hx8
    have hS5 := hS5.trans hx8
    have hR_l := hR_l.ext hx8
    have hB1 := hB1.ext hx8
    have hB2 := hB2.ext hx8
    have hM6 := hM6.ext hx8
    have hM7 := hM7.ext hx8
    refine L.val rfl (op_assign rfl rfl) ?_
    refine L.nil ?_
    refine thenF_nor ?_
    refine W.seq ?_
    refine W.seq ?_
    refine W.region (by rfl) ?_
    refine L.val rfl (op_move rfl rfl) ?_
    refine L.val rfl (op_load (v := (parent : Nm)) rfl rfl ty24 hB1.cells) ?_
    refine L.val rfl (op_move rfl rfl) ?_
    refine L.step rfl (OpS.call (op_call rfl (argsC rfl (argsC rfl (argsC rfl argsN))) Try.func18 rfl rfl) (Accepted_ok hR_l (by first | omega | (simp only [List.length_drop, List.length_take, List.length_append, List.length_cons, List.length_nil] at *; omega)))) ?_
    rintro _ w9 ⟨⟨A9, c9, lo9, hi9, rfl, hcap9, hR9⟩, hx9⟩
    have hE := hE.trans hx9
    have hS5 := hS5.trans hx9
    have hR_l := hR_l.ext hx9
    have hB1 := hB1.ext hx9
    have hB2 := hB2.ext hx9
    have hM6 := hM6.ext hx9
    have hM7 := hM7.ext hx9
    have hB8 := hB8.ext hx9
    have hlen9 := hR9.len
    refine L.val rfl (op_len rfl rfl ln25) ?_
    refine L.val rfl (op_move rfl rfl) ?_
    refine L.nil ?_
    have hbs := hB8.lt
    refine thenF_nor ?_
    refine W.block ?_
    refine W.loopg (γ := Nat) (fun (k : Nat) (f : Fr) (ww : World) => k ≤ (accepted_f m parent l).length ∧ f 0 = (.int .i64 m) ∧ f 7 = (.pointer (some ⟨b2, 0, none⟩)) ∧ f 8 = (.slice none 0 0) ∧ f 9 = (.bool false) ∧ f 38 = (.slice A9 (accepted_f m parent l).length c9) ∧ f 39 = (.int .i64 ((accepted_f m parent l).length : Int)) ∧ f 40 = (.int .i64 ((k : Nat) : Int)) ∧ f 10 = (.pointer (some ⟨b8, 0, none⟩)) ∧ (∃ vv, Box ww b8 89 [(.int .i64 m), vv, (.map (some b6)), (.map (some b7))] ∧ Fk.Own ww w9.heap.size 28 vv (((accepted_f m parent l).take k).filter (fun x : Vt => decide (x.slot = o.slot)))) ∧ Rd ww lo9 w9.heap.size A9 (accepted_f m parent l) ∧ LeSz w9.heap.size ww ∧ Mp ww b6 ([] : List (Vt × Int)) ∧ Mp ww b7 ([] : List (Vt × Int)) ∧ Ext w3 ww) (fun (k : Nat) => (accepted_f m parent l).length - k) 0 ⟨(by (try dsimp only); omega), rfl, rfl, rfl, rfl, rfl, rfl, rfl, rfl, ⟨_, hB8, Fk.Own.nil _ _ _⟩, (rd_clip hR9), (Nat.le_refl _), hM6, hM7, hS5⟩ ?_
    rintro k f10 w10 ⟨hk, s10_0, s10_7, s10_8, s10_9, s10_38, s10_39, s10_40, s10_10, hM10_10, hR9, hZ, hM10_b6, hM10_b7, hS5⟩
    have hR_l := S5_hR_l.ext hS5
    have hB1 := S5_hB1.ext hS5
    have hB2 := S5_hB2.ext hS5
    have hE := S5_hE.trans hS5
    obtain ⟨v10_10, hB10_10, hO10_10⟩ := hM10_10
    have hfl := List.length_filter_le (fun x : Vt => decide (x.slot = o.slot)) ((accepted_f m parent l).take k)
    have htl := List.length_take_le' k (accepted_f m parent l)
    refine W.seq ?_
    refine W.region (by rfl) ?_
    refine L.val rfl (op_lss rfl s10_40 s10_39) ?_
    refine L.nil ?_
    refine thenF_nor ?_
    refine W.seq ?_
    refine W.cond (t := decide (((k : Nat) : Int) < ((accepted_f m parent l).length : Int))) rfl (fun hc11 => ?_) (fun hc11 => ?_)
    · have hp11 := hc11
      simp only [Bool.and_eq_true, Bool.or_eq_true, Bool.and_eq_false_iff, Bool.or_eq_false_iff, Bool.not_eq_true', Bool.not_eq_false', decide_eq_true_eq, decide_eq_false_iff_not] at hp11
      refine W.skip ?_
      refine thenF_nor ?_
      refine W.seq ?_
      refine W.block ?_
      refine W.seq ?_
      refine W.region (by rfl) ?_
      refine L.val rfl (op_index (k := k) rfl s10_38 s10_40 sl25 (hR9.getA (get_bang (l := accepted_f m parent l) (k := k) (by omega))).1 rfl (by omega) rfl) ?_
      refine L.val rfl (op_load (v := (accepted_f m parent l)[k]!) rfl rfl ty28 (hR9.getA (get_bang (l := accepted_f m parent l) (k := k) (by omega))).2) ?_
      refine L.newvar (v := (Enc.val ((accepted_f m parent l)[k]!))) (cs := (Enc.cells (accepted_f m parent l)[k]!)) rfl rfl rfl rfl rfl rfl (fun _ => rfl) rfl si28 zs28 (Enc.one _) ?_
      intro b12 w12 hb12 hB12 hx12
      have hbb12_hE := Nat.le_trans hE.size hb12
      have hbb12_hS5 := Nat.le_trans hS5.size hb12
      have hE := hE.trans hx12
      have hS5 := hS5.trans hx12
      have hR_l := hR_l.ext hx12
      have hB1 := hB1.ext hx12
      have hB2 := hB2.ext hx12
      have hR9 := hR9.ext hx12
      have hZ := hZ.ext hx12
      have hM10_b6 := hM10_b6.ext hx12
      have hM10_b7 := hM10_b7.ext hx12
      have hB10_10 := hB10_10.ext hx12
      have hO10_10 := hO10_10.ext hx12
      refine L.nil ?_
      refine thenF_nor ?_
      refine W.seq ?_
      refine W.region (by rfl) ?_
      refine L.val rfl (op_field rfl rfl fo28_1 rfl) ?_
      refine L.val rfl (op_load1 rfl rfl one3 (hB12.cells.one (n := 1) rfl)) ?_
      refine L.val rfl (op_field rfl s10_7 fo49_0 rfl) ?_
      refine L.val rfl (op_load1 rfl rfl one3 (hB2.cells.one (n := 0) rfl)) ?_
      refine L.val rfl (op_eql rfl rfl rfl) ?_
      refine L.nil ?_
      refine thenF_nor ?_
      refine W.cond (t := decide ((((accepted_f m parent l)[k]!).slot) = o.slot)) rfl (fun hc13 => ?_) (fun hc13 => ?_)
      · have hp13 := hc13
        simp only [Bool.and_eq_true, Bool.or_eq_true, Bool.and_eq_false_iff, Bool.or_eq_false_iff, Bool.not_eq_true', Bool.not_eq_false', decide_eq_true_eq, decide_eq_false_iff_not] at hp13
        have hstep := filter_yes (l := (accepted_f m parent l)) (p := (fun x : Vt => decide (x.slot = o.slot))) (k := k) (by omega) hc13
        refine W.drawPush (wS := w3) (i6 := 6) (i7 := 7) (i10 := 10) (pb := b8) (bw := b6) (bd := b7) (off := 1) (t := 89) (cs := [(.int .i64 m), v10_10, (.map (some b6)), (.map (some b7))]) (lw := ([] : List (Vt × Int))) (ld := ([] : List (Vt × Int))) (l := (((accepted_f m parent l).take k).filter (fun x : Vt => decide (x.slot = o.slot)))) (x := ((accepted_f m parent l)[k]! : Vt)) (v := v10_10) [(.pointer (some ⟨b8, 0, none⟩)), (.pointer (some ⟨b8, 0, none⟩)), (.pointer (some ⟨b8, 0, none⟩)), (.pointer (some ⟨b8, 1, none⟩)), v10_10, (Enc.val ((accepted_f m parent l)[k]!)), undef, undef, (.pointer (some ⟨b8, 0, none⟩)), (.pointer (some ⟨b8, 1, none⟩)), undef] mixed (by rfl) sl25 zs28 bt28 (by decide) si25 (by decide) hO10_10 (by omega) ⟨hS5, hB10_10, hM10_b6, hM10_b7, hR9⟩ hbb8_hS5 hbs hZ (Nat.le_refl _) (Nat.le_of_ble_eq_true rfl) (Nat.le_of_ble_eq_true rfl) ?_ rfl rfl rfl rfl rfl rfl rfl rfl rfl rfl rfl rfl (fun _ _ hd => hd 5 rfl rfl) (fun _ _ hd => hd 4 rfl rfl) (fun _ _ hd => hd 9 rfl rfl) ?_
        · refine VObls.cons ?_ (VObls.cons ?_ (VObls.cons ?_ (VObls.cons ?_ (VObls.cons ?_ (VObls.cons ?_ (VObls.cons (fun h => nomatch h) (VObls.cons (fun h => nomatch h) (VObls.cons ?_ (VObls.cons ?_ (VObls.cons (fun h => nomatch h) (VObls.nil)))))))))))
          · intro _ f14 w14 hx14 ho14 hd14
            have d14_s10 : f14 10 = (.pointer (some ⟨b8, 0, none⟩)) := (ho14 10 rfl).trans s10_10
            exact ⟨rfl, (op_move rfl d14_s10), rfl⟩
          · intro _ f15 w15 hx15 ho15 hd15
            have d15_s10 : f15 10 = (.pointer (some ⟨b8, 0, none⟩)) := (ho15 10 rfl).trans s10_10
            exact ⟨rfl, (op_move rfl d15_s10), rfl⟩
          · intro _ f16 w16 hx16 ho16 hd16
            have d16_1 : f16 50 = (.pointer (some ⟨b8, 0, none⟩)) := hd16 1 rfl rfl
            exact ⟨rfl, (op_nilCheck rfl d16_1), rfl⟩
          · intro _ f17 w17 hx17 ho17 hd17
            have d17_2 : f17 51 = (.pointer (some ⟨b8, 0, none⟩)) := hd17 2 rfl rfl
            exact ⟨rfl, (op_field rfl d17_2 fo89_1 rfl), rfl⟩
          · intro _ f18 w18 hx18 ho18 hd18
            have d18_3 : f18 52 = (.pointer (some ⟨b8, 1, none⟩)) := hd18 3 rfl rfl
            have hxx18 := hx18 (by first | exact Or.inl rfl | exact Or.inr rfl)
            have hR_l := hR_l.ext hxx18
            have hB1 := hB1.ext hxx18
            have hB2 := hB2.ext hxx18
            have hR9 := hR9.ext hxx18
            have hZ := hZ.ext hxx18
            have hM10_b6 := hM10_b6.ext hxx18
            have hM10_b7 := hM10_b7.ext hxx18
            have hB10_10 := hB10_10.ext hxx18
            have hO10_10 := hO10_10.ext hxx18
            have hB12 := hB12.ext hxx18
            exact ⟨rfl, (op_load1 rfl d18_3 one25 (hB10_10.cells.one (n := 1) rfl)), rfl⟩
          · intro _ f19 w19 hx19 ho19 hd19
            have d19_s12 : f19 12 = (.pointer (some ⟨b12, 0, none⟩)) := ho19 12 rfl
            have hxx19 := hx19 (by first | exact Or.inl rfl | exact Or.inr rfl)
            have hR_l := hR_l.ext hxx19
            have hB1 := hB1.ext hxx19
            have hB2 := hB2.ext hxx19
            have hR9 := hR9.ext hxx19
            have hZ := hZ.ext hxx19
            have hM10_b6 := hM10_b6.ext hxx19
            have hM10_b7 := hM10_b7.ext hxx19
            have hB10_10 := hB10_10.ext hxx19
            have hO10_10 := hO10_10.ext hxx19
            have hB12 := hB12.ext hxx19
            exact ⟨rfl, (op_load (v := (accepted_f m parent l)[k]!) rfl d19_s12 ty28 hB12.cells), rfl⟩
          · intro _ f20 w20 hx20 ho20 hd20
            have d20_0 : f20 49 = (.pointer (some ⟨b8, 0, none⟩)) := hd20 0 rfl rfl
            exact ⟨rfl, (op_nilCheck rfl d20_0), rfl⟩
          · intro _ f21 w21 hx21 ho21 hd21
            have d21_8 : f21 57 = (.pointer (some ⟨b8, 0, none⟩)) := hd21 8 rfl rfl
            exact ⟨rfl, (op_field rfl d21_8 fo89_1 rfl), rfl⟩
        rintro f22 w22 v22 ho22 hr22 hO22 ⟨hS5, hB22, hMw22, hMd22, hR9⟩
        have hZ := own_le hO22 (by simp)
        have s0 : f22 0 = (.int .i64 m) := (ho22 0 rfl).trans s10_0
        have s7 : f22 7 = (.pointer (some ⟨b2, 0, none⟩)) := (ho22 7 rfl).trans s10_7
        have s8 : f22 8 = (.slice none 0 0) := (ho22 8 rfl).trans s10_8
        have s9 : f22 9 = (.bool false) := (ho22 9 rfl).trans s10_9
        have s10 : f22 10 = (.pointer (some ⟨b8, 0, none⟩)) := (ho22 10 rfl).trans s10_10
        have s12 : f22 12 = (.pointer (some ⟨b12, 0, none⟩)) := ho22 12 rfl
        have s38 : f22 38 = (.slice A9 (accepted_f m parent l).length c9) := (ho22 38 rfl).trans s10_38
        have s39 : f22 39 = (.int .i64 ((accepted_f m parent l).length : Int)) := (ho22 39 rfl).trans s10_39
        have s40 : f22 40 = (.int .i64 ((k : Nat) : Int)) := (ho22 40 rfl).trans s10_40
        have s41 : f22 41 = (.bool (decide (((k : Nat) : Int) < ((accepted_f m parent l).length : Int)))) := ho22 41 rfl
        have s48 : f22 48 = (.bool (decide ((((accepted_f m parent l)[k]!).slot) = o.slot))) := ho22 48 rfl
        have hR_l := S5_hR_l.ext hS5
        have hB1 := S5_hB1.ext hS5
        have hB2 := S5_hB2.ext hS5
        have hE := S5_hE.trans hS5
        refine blockF_nor ?_
        refine thenF_nor ?_
        refine W.region (by rfl) ?_
        refine L.val rfl (op_add (c := ((k + 1 : Nat) : Int)) rfl s40 rfl (by omega) (by omega)) ?_
        refine L.val rfl (op_move rfl rfl) ?_
        refine L.nil ?_
        refine thenF_nor ?_
        exact ⟨k + 1, ⟨(by (try dsimp only); omega), s0, s7, s8, s9, s38, s39, rfl, s10, (by rw [← hstep]; exact ⟨_, hB22, hO22⟩), hR9, hZ, hMw22, hMd22, hS5⟩, (by (try dsimp only); omega)⟩
      · have hp13 := hc13
        simp only [Bool.and_eq_true, Bool.or_eq_true, Bool.and_eq_false_iff, Bool.or_eq_false_iff, Bool.not_eq_true', Bool.not_eq_false', decide_eq_true_eq, decide_eq_false_iff_not] at hp13
        have hstep := filter_no (l := (accepted_f m parent l)) (p := (fun x : Vt => decide (x.slot = o.slot))) (k := k) (by omega) hc13
        refine W.skip ?_
        refine blockF_nor ?_
        refine thenF_nor ?_
        refine W.region (by rfl) ?_
        refine L.val rfl (op_add (c := ((k + 1 : Nat) : Int)) rfl s10_40 rfl (by omega) (by omega)) ?_
        refine L.val rfl (op_move rfl rfl) ?_
        refine L.nil ?_
        refine thenF_nor ?_
        exact ⟨k + 1, ⟨(by (try dsimp only); omega), s10_0, s10_7, s10_8, s10_9, s10_38, s10_39, rfl, s10_10, (by rw [← hstep]; exact ⟨_, hB10_10, hO10_10⟩), hR9, hZ, hM10_b6, hM10_b7, hS5⟩, (by (try dsimp only); omega)⟩
    · have hp11 := hc11
      simp only [Bool.and_eq_true, Bool.or_eq_true, Bool.and_eq_false_iff, Bool.or_eq_false_iff, Bool.not_eq_true', Bool.not_eq_false', decide_eq_true_eq, decide_eq_false_iff_not] at hp11
      have hkl : k = (accepted_f m parent l).length := by omega
      rw [hkl, List.take_length] at hO10_10
      obtain ⟨A23, c23, hv23, hR23, hcap23⟩ := (hO10_10).form
      have hlen23 := hR23.len
      have hBs23 := hB10_10
      rw [hv23] at hBs23
      refine W.exit ?_
      refine thenF_exit ?_
      refine thenF_exit ?_
      refine blockF_hit ?_
      refine thenF_nor ?_
      refine W.seq ?_
      refine W.region (by rfl) ?_
      refine L.val rfl (op_assign rfl rfl) ?_
      refine L.nil ?_
      refine thenF_nor ?_
      refine W.seq ?_
      refine W.seq ?_
      refine W.region (by rfl) ?_
      refine L.val rfl (op_move rfl s10_0) ?_
      refine L.step rfl (OpS.call (op_call rfl (argsC rfl argsN) Try.func44 rfl rfl) IDs_ok) ?_
      rintro _ w24 ⟨⟨A24, c24, lo24, hi24, rfl, hcap24, hR24⟩, hx24⟩
      have hE := hE.trans hx24
      have hS5 := hS5.trans hx24
      have hR_l := hR_l.ext hx24
      have hB1 := hB1.ext hx24
      have hB2 := hB2.ext hx24
      have hR9 := hR9.ext hx24
      have hM10_b6 := hM10_b6.ext hx24
      have hM10_b7 := hM10_b7.ext hx24
      have hR23 := hR23.ext hx24
      have hBs23 := hBs23.ext hx24
      have hlen24 := hR24.len
      refine L.val rfl (op_len rfl rfl ln57) ?_
      refine L.val rfl (op_move rfl rfl) ?_
      refine L.nil ?_
      refine thenF_nor ?_
      refine W.block ?_
      have S25_hR_l := hR_l
      have S25_hB1 := hB1
      have S25_hB2 := hB2
      have S25_hR9 := hR9
      have S25_hM10_b6 := hM10_b6
      have S25_hM10_b7 := hM10_b7
      have S25_hR23 := hR23
      have S25_hBs23 := hBs23
      have S25_hR24 := hR24
      have S25_hE := hE
      have S25_hS5 := hS5
      have hS25 : Ext w24 w24 := Ext.refl _
      refine W.loopg (γ := Nat × Int × List Vt) (fun (g : Nat × Int × List Vt) (f : Fr) (ww : World) => g.1 ≤ (ids_f m).length ∧ 0 ≤ g.2.1 ∧ g.2.1 ≤ (g.1 : Int) ∧ ((ids_f m).take g.1).foldl (seedStep (clo_g (inSlot m parent l o.slot) o) (quorum_f (size_f m))) (0, []) = (g.2.1, g.2.2) ∧ f 0 = (.int .i64 m) ∧ f 7 = (.pointer (some ⟨b2, 0, none⟩)) ∧ f 8 = (.slice none 0 0) ∧ f 9 = (.bool false) ∧ f 10 = (.pointer (some ⟨b8, 0, none⟩)) ∧ f 61 = (.slice A24 (ids_f m).length c24) ∧ f 62 = (.int .i64 ((ids_f m).length : Int)) ∧ f 63 = (.int .i64 ((g.1 : Nat) : Int)) ∧ f 13 = (.int .i64 g.2.1) ∧ Mp ww b6 (wants [] [] g.2.2 : List (Vt × Int)) ∧ w24.grownBy ww (some b6)) (fun (g : Nat × Int × List Vt) => (ids_f m).length - g.1) (0, 0, ([] : List Vt)) ⟨(by (try dsimp only); omega), (by (try dsimp only); omega), (by (try dsimp only); omega), rfl, s10_0, s10_7, s10_8, s10_9, s10_10, rfl, rfl, rfl, rfl, hM10_b6, (grown_refl _ _)⟩ ?_
      rintro ⟨k, c, sd⟩ f26 w26 ⟨hk, hc0, hck, hst, s26_0, s26_7, s26_8, s26_9, s26_10, s26_61, s26_62, s26_63, s26_13, hM26_b6, hT26⟩
      dsimp only at hk hc0 hck hst s26_0 s26_7 s26_8 s26_9 s26_10 s26_61 s26_62 s26_63 s26_13 hM26_b6 hT26
      have hnc26 := S25_hM10_b6.nc
      have hR_l := S25_hR_l.farM hnc26 hT26
      have hB1 := S25_hB1.farM hnc26 hT26
      have hB2 := S25_hB2.farM hnc26 hT26
      have hR9 := S25_hR9.farM hnc26 hT26
      have hM10_b7 := S25_hM10_b7.farM hne_b7_b6 hT26
      have hR23 := S25_hR23.farM hnc26 hT26
      have hBs23 := S25_hBs23.farM hnc26 hT26
      have hR24 := S25_hR24.farM hnc26 hT26
      have hE := S25_hE.grown hT26 (by intro k hk; cases hk; exact hbb6_hE)
      have hS5 := S25_hS5.grown hT26 (by intro k hk; cases hk; exact hbb6_hS5)
      refine W.seq ?_
      refine W.region (by rfl) ?_
      refine L.val rfl (op_lss rfl s26_63 s26_62) ?_
      refine L.nil ?_
      refine thenF_nor ?_
      refine W.seq ?_
      refine W.cond (t := decide (((k : Nat) : Int) < ((ids_f m).length : Int))) rfl (fun hc27 => ?_) (fun hc27 => ?_)
      · have hp27 := hc27
        simp only [Bool.and_eq_true, Bool.or_eq_true, Bool.and_eq_false_iff, Bool.or_eq_false_iff, Bool.not_eq_true', Bool.not_eq_false', decide_eq_true_eq, decide_eq_false_iff_not] at hp27
        refine W.skip ?_
        refine thenF_nor ?_
        refine W.seq ?_
        refine W.block ?_
        refine W.seq ?_
        refine W.region (by rfl) ?_
        refine L.val rfl (op_index (k := k) rfl s26_61 s26_63 sl57 (hR24.getA (get_bang (l := ids_f m) (k := k) (by omega))).1 rfl (by omega) rfl) ?_
        refine L.val rfl (op_load1 rfl rfl one3 ((hR24.getA (get_bang (l := ids_f m) (k := k) (by omega))).2.one (n := 0) rfl)) ?_
        refine L.newvar (v := (.int .i64 ((ids_f m)[k]!))) (cs := (Enc.cells ((ids_f m)[k]! : Int))) rfl rfl rfl rfl rfl rfl (fun _ => rfl) rfl si3 zs3 (Enc.one _) ?_
        intro b28 w28 hb28 hB28 hx28
        have hbb28_hE := Nat.le_trans hE.size hb28
        have hbb28_hS5 := Nat.le_trans hS5.size hb28
        have hbb28_hT26 := Nat.le_trans hT26.size hb28
        have hE := hE.trans hx28
        have hS5 := hS5.trans hx28
        have hT26 := grown_ext hT26 hx28
        have hR_l := hR_l.ext hx28
        have hB1 := hB1.ext hx28
        have hB2 := hB2.ext hx28
        have hR9 := hR9.ext hx28
        have hM10_b7 := hM10_b7.ext hx28
        have hR23 := hR23.ext hx28
        have hBs23 := hBs23.ext hx28
        have hR24 := hR24.ext hx28
        have hM26_b6 := hM26_b6.ext hx28
        refine L.nil ?_
        refine thenF_nor ?_
        refine W.seq ?_
        refine W.region (by rfl) ?_
        refine L.val rfl (op_move rfl s26_13) ?_
        refine L.val rfl (op_move rfl s26_0) ?_
        refine L.call (v := (.int .i64 (size_f m))) rfl (OpS.call (op_call rfl (argsC rfl argsN) Try.func29 rfl rfl) Size_ok) ?_
        intro w29 hx29
        have hE := hE.trans hx29
        have hS5 := hS5.trans hx29
        have hT26 := grown_ext hT26 hx29
        have hR_l := hR_l.ext hx29
        have hB1 := hB1.ext hx29
        have hB2 := hB2.ext hx29
        have hR9 := hR9.ext hx29
        have hM10_b7 := hM10_b7.ext hx29
        have hR23 := hR23.ext hx29
        have hBs23 := hBs23.ext hx29
        have hR24 := hR24.ext hx29
        have hM26_b6 := hM26_b6.ext hx29
        have hB28 := hB28.ext hx29
        refine L.call (v := (.int .i64 (quorum_f (size_f m)))) rfl (OpS.call (op_call rfl (argsC rfl argsN) Try.func31 rfl rfl) (Quorum_ok (by first | omega | (simp only [List.length_drop, List.length_take, List.length_append, List.length_cons, List.length_nil] at *; omega)) (by first | omega | (simp only [List.length_drop, List.length_take, List.length_append, List.length_cons, List.length_nil] at *; omega)))) ?_
        intro w30 hx30
        have hE := hE.trans hx30
        have hS5 := hS5.trans hx30
        have hT26 := grown_ext hT26 hx30
        have hR_l := hR_l.ext hx30
        have hB1 := hB1.ext hx30
        have hB2 := hB2.ext hx30
        have hR9 := hR9.ext hx30
        have hM10_b7 := hM10_b7.ext hx30
        have hR23 := hR23.ext hx30
        have hBs23 := hBs23.ext hx30
        have hR24 := hR24.ext hx30
        have hM26_b6 := hM26_b6.ext hx30
        have hB28 := hB28.ext hx30
        refine L.val rfl (op_lss rfl rfl rfl) ?_
        refine L.nil ?_
        refine thenF_nor ?_
        refine W.cond (t := decide (c < (quorum_f (size_f m)))) rfl (fun hc31 => ?_) (fun hc31 => ?_)
        · have hp31 := hc31
          simp only [Bool.and_eq_true, Bool.or_eq_true, Bool.and_eq_false_iff, Bool.or_eq_false_iff, Bool.not_eq_true', Bool.not_eq_false', decide_eq_true_eq, decide_eq_false_iff_not] at hp31
          have hlt := hc31
          refine W.seq ?_
          refine W.region (by rfl) ?_
          refine L.val rfl (op_move rfl s26_10) ?_
          refine L.val rfl (op_func rfl (argsC rfl (argsC s26_7 argsN))) ?_
          refine L.step rfl (OpS.call (op_call rfl (argsC rfl (argsC rfl argsN)) Try.func70 rfl rfl) (least_ok hBs23.cells hR23 hM26_b6 hM10_b7 hne_b7_b6 (⟨_, [(.pointer (some ⟨b28, 0, none⟩)), (.pointer (some ⟨b2, 0, none⟩))], _, rfl, Try.func71, rfl, rfl, fun xx ww hxx => (clo1_ok (hB28.cells.ext hxx) (hB2.cells.ext hxx))⟩ : Fits _ _ _ (fun xx => clo1_f xx ((ids_f m)[k]!) o)))) ?_
          rintro _ w32 ⟨rfl, hM32, hg32⟩
          have hnc32 := hM26_b6.nc
          have hE := hE.grown hg32 (by intro k hk; cases hk; exact hbb6_hE)
          have hS5 := hS5.grown hg32 (by intro k hk; cases hk; exact hbb6_hS5)
          have hT26 := grown_trans hT26 hg32
          have hR_l := hR_l.farM hnc32 hg32
          have hB1 := hB1.farM hnc32 hg32
          have hB2 := hB2.farM hnc32 hg32
          have hR9 := hR9.farM hnc32 hg32
          have hM10_b7 := hM10_b7.farM hne_b7_b6 hg32
          have hR23 := hR23.farM hnc32 hg32
          have hBs23 := hBs23.farM hnc32 hg32
          have hR24 := hR24.farM hnc32 hg32
          have hB28 := hB28.farM hnc32 hg32
          refine L.val rfl (op_move rfl rfl) ?_
          refine L.val rfl (op_extract rfl rfl rfl) ?_
          refine L.val rfl (op_extract rfl rfl rfl) ?_
          refine L.newvar (v := (Enc.val (((inSlot m parent l o.slot).find? (fun xx => clo1_f xx ((ids_f m)[k]!) o)).getD vt0))) (cs := (Enc.cells (((inSlot m parent l o.slot).find? (fun xx => clo1_f xx ((ids_f m)[k]!) o)).getD vt0))) rfl rfl rfl rfl rfl rfl (fun _ => rfl) rfl si28 zs28 (Enc.one _) ?_
          intro b33 w33 hb33 hB33 hx33
          have hbb33_hE := Nat.le_trans hE.size hb33
          have hbb33_hS5 := Nat.le_trans hS5.size hb33
          have hbb33_hT26 := Nat.le_trans hT26.size hb33
          have hE := hE.trans hx33
          have hS5 := hS5.trans hx33
          have hT26 := grown_ext hT26 hx33
          have hR_l := hR_l.ext hx33
          have hB1 := hB1.ext hx33
          have hB2 := hB2.ext hx33
          have hR9 := hR9.ext hx33
          have hM10_b7 := hM10_b7.ext hx33
          have hR23 := hR23.ext hx33
          have hBs23 := hBs23.ext hx33
          have hR24 := hR24.ext hx33
          have hB28 := hB28.ext hx33
          have hM32 := hM32.ext hx33
          refine L.val rfl (op_assign rfl rfl) ?_
          refine L.nil ?_
          refine thenF_nor ?_
          refine W.seq ?_
          refine W.region (by rfl) ?_
          refine L.val rfl (op_move rfl rfl) ?_
          refine L.nil ?_
          refine thenF_nor ?_
          refine W.cond (t := ((inSlot m parent l o.slot).find? (fun xx => clo1_f xx ((ids_f m)[k]!) o)).isSome) rfl (fun hc34 => ?_) (fun hc34 => ?_)
          · have hp34 := hc34
            have hstep := seed_some (g := (clo_g (inSlot m parent l o.slot) o)) (L := sd) hlt hc34
            refine W.region (by rfl) ?_
            refine L.val rfl (op_move rfl s26_13) ?_
            refine L.val rfl (op_add rfl rfl rfl rfl (by omega)) ?_
            refine L.val rfl (op_assign rfl rfl) ?_
            refine L.nil ?_
            refine blockF_nor ?_
            refine thenF_nor ?_
            refine W.region (by rfl) ?_
            refine L.val rfl (op_add (c := ((k + 1 : Nat) : Int)) rfl s26_63 rfl (by omega) (by omega)) ?_
            refine L.val rfl (op_move rfl rfl) ?_
            refine L.nil ?_
            refine thenF_nor ?_
            exact ⟨(k + 1, c + 1, (sd ++ (clo_g (inSlot m parent l o.slot) o (ids_f m)[k]!).toList)), ⟨(by (try dsimp only); omega), (by (try dsimp only); omega), (by (try dsimp only); omega), (by dsimp only; rw [fold_go (by omega), hst]; exact hstep), s26_0, s26_7, s26_8, s26_9, s26_10, s26_61, s26_62, rfl, rfl, (by rw [wants_append, wants_one]; exact hM32), hT26⟩, (by (try dsimp only); omega)⟩
          · have hp34 := hc34
            have hstep := seed_none (g := (clo_g (inSlot m parent l o.slot) o)) (L := sd) hlt hc34
            refine W.skip ?_
            refine blockF_nor ?_
            refine thenF_nor ?_
            refine W.region (by rfl) ?_
            refine L.val rfl (op_add (c := ((k + 1 : Nat) : Int)) rfl s26_63 rfl (by omega) (by omega)) ?_
            refine L.val rfl (op_move rfl rfl) ?_
            refine L.nil ?_
            refine thenF_nor ?_
            exact ⟨(k + 1, c, (sd ++ (clo_g (inSlot m parent l o.slot) o (ids_f m)[k]!).toList)), ⟨(by (try dsimp only); omega), (by (try dsimp only); omega), (by (try dsimp only); omega), (by dsimp only; rw [fold_go (by omega), hst]; exact hstep), s26_0, s26_7, s26_8, s26_9, s26_10, s26_61, s26_62, rfl, s26_13, (by rw [wants_append, wants_one]; exact hM32), hT26⟩, (by (try dsimp only); omega)⟩
        · have hp31 := hc31
          simp only [Bool.and_eq_true, Bool.or_eq_true, Bool.and_eq_false_iff, Bool.or_eq_false_iff, Bool.not_eq_true', Bool.not_eq_false', decide_eq_true_eq, decide_eq_false_iff_not] at hp31
          have hstep := seed_no (g := (clo_g (inSlot m parent l o.slot) o)) (L := sd) (i := (ids_f m)[k]!) hc31
          refine W.skip ?_
          refine blockF_nor ?_
          refine thenF_nor ?_
          refine W.region (by rfl) ?_
          refine L.val rfl (op_add (c := ((k + 1 : Nat) : Int)) rfl s26_63 rfl (by omega) (by omega)) ?_
          refine L.val rfl (op_move rfl rfl) ?_
          refine L.nil ?_
          refine thenF_nor ?_
          exact ⟨(k + 1, c, sd), ⟨(by (try dsimp only); omega), (by (try dsimp only); omega), (by (try dsimp only); omega), (by dsimp only; rw [fold_go (by omega), hst]; exact hstep), s26_0, s26_7, s26_8, s26_9, s26_10, s26_61, s26_62, rfl, s26_13, hM26_b6, hT26⟩, (by (try dsimp only); omega)⟩
      · have hp27 := hc27
        simp only [Bool.and_eq_true, Bool.or_eq_true, Bool.and_eq_false_iff, Bool.or_eq_false_iff, Bool.not_eq_true', Bool.not_eq_false', decide_eq_true_eq, decide_eq_false_iff_not] at hp27
        have hkl : k = (ids_f m).length := by omega
        rw [hkl, List.take_length] at hst
        have hsd : sd = (seeds_f m (inSlot m parent l o.slot) o) := by unfold seeds_f; rw [hst]
        rw [hsd] at hM26_b6
        have hcl0 : ClInv m (inSlot m parent l o.slot) (seeds_f m (inSlot m parent l o.slot) o) (wants [] [] (seeds_f m (inSlot m parent l o.slot) o)) [] := cl_init
        refine W.exit ?_
        refine thenF_exit ?_
        refine thenF_exit ?_
        refine blockF_hit ?_
        refine thenF_nor ?_
        refine W.seq ?_
        refine W.block ?_
        refine W.loopg (γ := List (Vt × Int) × List (Vt × Int)) (fun (g : List (Vt × Int) × List (Vt × Int)) (f : Fr) (ww : World) => ClInv m (inSlot m parent l o.slot) (seeds_f m (inSlot m parent l o.slot) o) g.1 g.2 ∧ f 8 = (.slice none 0 0) ∧ f 9 = (.bool false) ∧ f 10 = (.pointer (some ⟨b8, 0, none⟩)) ∧ Mp ww b6 (g.1 : List (Vt × Int)) ∧ Mp ww b7 (g.2 : List (Vt × Int)) ∧ Box ww b8 89 [.int .i64 m, .slice A23 (inSlot m parent l o.slot).length c23, .map (some b6), .map (some b7)] ∧ Rd ww w9.heap.size w10.heap.size A23 (inSlot m parent l o.slot) ∧ Ext w ww) (fun (g : List (Vt × Int) × List (Vt × Int)) => (inSlot m parent l o.slot).length - g.2.length) ((wants [] [] (seeds_f m (inSlot m parent l o.slot) o)), ([] : List (Vt × Int))) ⟨hcl0, s26_8, s26_9, s26_10, hM26_b6, hM10_b7, hBs23, hR23, hE⟩ ?_
        rintro ⟨lw, ld⟩ f35 w35 ⟨hcl, s35_8, s35_9, s35_10, hM35_b6, hM35_b7, hBs23, hR23, hE⟩
        dsimp only at hcl s35_8 s35_9 s35_10 hM35_b6 hM35_b7 hBs23 hR23 hE
        have hlwl := cl_len_w hcl (fun z hz => seeds_sub hz) hM35_b6.keys
        have hldl := cl_len_d hcl (fun z hz => seeds_sub hz) hM35_b7.keys
        have hkw := hM35_b6.keys
        refine W.seq ?_
        refine W.seq ?_
        refine W.region (by rfl) ?_
        refine L.val rfl (op_move rfl s35_10) ?_
        refine L.val rfl (op_nilCheck rfl rfl) ?_
        refine L.val rfl (op_field rfl rfl fo89_2 rfl) ?_
        refine L.val rfl (op_load1 rfl rfl one87 (hBs23.cells.one (n := 2) rfl)) ?_
        refine L.val rfl (op_lenMap rfl Try.underlying87 rfl hM35_b6) ?_
        refine L.val rfl (op_gtr rfl rfl rfl) ?_
        refine L.nil ?_
        refine thenF_nor ?_
        refine W.cond (t := decide (0 < (lw.length : Int))) rfl (fun hc36 => ?_) (fun hc36 => ?_)
        · have hp36 := hc36
          simp only [Bool.and_eq_true, Bool.or_eq_true, Bool.and_eq_false_iff, Bool.or_eq_false_iff, Bool.not_eq_true', Bool.not_eq_false', decide_eq_true_eq, decide_eq_false_iff_not] at hp36
          have hlw := hc36
          refine W.skip ?_
          refine thenF_nor ?_
          refine W.block ?_
          refine W.seq ?_
          have S37_hBs23 := hBs23
          have S37_hR23 := hR23
          have S37_hM35_b6 := hM35_b6
          have S37_hM35_b7 := hM35_b7
          have S37_hE := hE
          have hS37 : Ext w35 w35 := Ext.refl _
          refine W.region (by rfl) ?_
          refine L.val rfl (op_assign rfl rfl) ?_
          refine L.nil ?_
          refine thenF_nor ?_
          refine W.seq ?_
          refine W.seq ?_
          refine W.region (by rfl) ?_
          refine L.val rfl (op_move rfl s35_10) ?_
          refine L.val rfl (op_nilCheck rfl rfl) ?_
          refine L.val rfl (op_field rfl rfl fo89_2 rfl) ?_
          refine L.val rfl (op_load1 rfl rfl one87 (hBs23.cells.one (n := 2) rfl)) ?_
          refine L.step rfl (op_range rfl Try.underlying87 rfl hM35_b6) ?_
          rintro _ w38 ⟨b38, rfl, hb38, hG38, hx38⟩
          have hbb38_hE := Nat.le_trans hE.size hb38
          have hbb38_hS37 := Nat.le_trans hS37.size hb38
          have hE := hE.trans hx38
          have hS37 := hS37.trans hx38
          have hBs23 := hBs23.ext hx38
          have hR23 := hR23.ext hx38
          have hM35_b6 := hM35_b6.ext hx38
          have hM35_b7 := hM35_b7.ext hx38
          refine L.nil ?_
          refine thenF_nor ?_
          refine W.block ?_
          refine W.loopg (γ := List (Vt × Int)) (fun (dn : List (Vt × Int)) (f : Fr) (ww : World) => f 8 = (.slice none 0 0) ∧ f 9 = (.bool false) ∧ f 10 = (.pointer (some ⟨b8, 0, none⟩)) ∧ f 87 = (.bool (decide (0 < (lw.length : Int)))) ∧ Fk.Own ww w35.heap.size 28 (f 18) (dn.map Prod.fst) ∧ f 92 = (.pointer (some ⟨b38, 0, none⟩)) ∧ Rg ww b6 b38 lw dn ∧ Ext w35 ww) (fun (dn : List (Vt × Int)) => lw.length - dn.length) ([] : List (Vt × Int)) ⟨s35_8, s35_9, s35_10, rfl, (own_at (v := .slice none 0 0) rfl (Fk.Own.nil _ _ _)), rfl, hG38, hS37⟩ ?_
          rintro dn f39 w39 ⟨s39_8, s39_9, s39_10, s39_87, hO39_18, s39_92, hG39_92, hS37⟩
          have hBs23 := S37_hBs23.ext hS37
          have hR23 := S37_hR23.ext hS37
          have hM35_b6 := S37_hM35_b6.ext hS37
          have hM35_b7 := S37_hM35_b7.ext hS37
          have hE := S37_hE.trans hS37
          obtain ⟨v39_18, s39_18⟩ : ∃ v, f39 18 = v := ⟨_, rfl⟩
          rw [s39_18] at hO39_18
          have hml : (dn.map Prod.fst).length = dn.length := List.length_map _
          have hgl0 := hG39_92.len
          refine W.seq ?_
          refine W.region (by rfl) ?_
          refine L.step rfl (op_nextE rfl s39_92 hG39_92) ?_
          rintro _ w40 (⟨rfl, hpm40, hx40⟩ | ⟨p40, hpl40, hpn40, rfl, hG40, hg40, hsz40⟩)
          · have hE := hE.trans hx40
            have hS37 := hS37.trans hx40
            have hBs23 := hBs23.ext hx40
            have hR23 := hR23.ext hx40
            have hM35_b6 := hM35_b6.ext hx40
            have hM35_b7 := hM35_b7.ext hx40
            have hG39_92 := hG39_92.ext hx40
            have hO39_18 := hO39_18.ext hx40
            refine L.val (v := (.bool false)) rfl (op_extract rfl rfl rfl) ?_
            refine L.nil ?_
            refine thenF_nor ?_
            refine W.seq ?_
            refine W.cond (t := false) rfl (fun h => nomatch h) (fun _ => ?_)
            refine W.exit ?_
            refine thenF_exit ?_
            refine thenF_exit ?_
            refine blockF_hit ?_
            refine thenF_nor ?_
            refine W.seq ?_
            have hpm := hpm40
            have hnd : (dn.map Prod.fst).Nodup := (hpm.map Prod.fst).nodup_iff.2 hkw
            have hplen := hpm.length_eq
            obtain ⟨A41, c41, hv41, hR41, hcap41⟩ := (hO39_18).form
            have hlen41 := hR41.len
            refine W.region (by rfl) ?_
            refine L.val rfl (op_move rfl ((show _ = v39_18 from s39_18).trans hv41)) ?_
            refine L.val rfl (op_len rfl rfl ln25) ?_
            refine L.val rfl (op_move rfl rfl) ?_
            refine L.nil ?_
            refine thenF_nor ?_
            refine W.block ?_
            refine W.loopg (γ := Nat × List (Vt × Int) × List (Vt × Int)) (fun (g : Nat × List (Vt × Int) × List (Vt × Int)) (f : Fr) (ww : World) => g.1 ≤ (dn.map Prod.fst).length ∧ ClInv m (inSlot m parent l o.slot) (seeds_f m (inSlot m parent l o.slot) o) g.2.1 g.2.2 ∧ g.2.2.length = ld.length + g.1 ∧ (∀ j, g.1 ≤ j → j < (dn.map Prod.fst).length → (dn.map Prod.fst)[j]! ∈ g.2.1.map Prod.fst) ∧ f 8 = (.slice none 0 0) ∧ f 9 = (.bool false) ∧ f 10 = (.pointer (some ⟨b8, 0, none⟩)) ∧ f 18 = v39_18 ∧ f 87 = (.bool (decide (0 < (lw.length : Int)))) ∧ f 92 = (.pointer (some ⟨b38, 0, none⟩)) ∧ f 94 = (.bool false) ∧ f 101 = (.slice A41 (dn.map Prod.fst).length c41) ∧ f 102 = (.int .i64 ((dn.map Prod.fst).length : Int)) ∧ f 103 = (.int .i64 ((g.1 : Nat) : Int)) ∧ Mp ww b6 (g.2.1 : List (Vt × Int)) ∧ Mp ww b7 (g.2.2 : List (Vt × Int)) ∧ Box ww b8 89 [.int .i64 m, .slice A23 (inSlot m parent l o.slot).length c23, .map (some b6), .map (some b7)] ∧ Rd ww w9.heap.size w10.heap.size A23 (inSlot m parent l o.slot) ∧ Rd ww w35.heap.size w40.heap.size A41 (dn.map Prod.fst) ∧ Ext w ww) (fun (g : Nat × List (Vt × Int) × List (Vt × Int)) => (dn.map Prod.fst).length - g.1) (0, lw, ld) ⟨(by (try dsimp only); omega), hcl, rfl, (fun j _ hj => (hpm.map Prod.fst).mem_iff.1 (map_at hj)), s39_8, s39_9, s39_10, s39_18, s39_87, s39_92, rfl, rfl, rfl, rfl, hM35_b6, hM35_b7, hBs23, hR23, hR41, hE⟩ ?_
            rintro ⟨k, lw2, ld2⟩ f42 w42 ⟨hk, hcl2, hld, hnx, s42_8, s42_9, s42_10, s42_18, s42_87, s42_92, s42_94, s42_101, s42_102, s42_103, hM42_b6, hM42_b7, hBs23, hR23, hR41, hE⟩
            dsimp only at hk hcl2 hld hnx s42_8 s42_9 s42_10 s42_18 s42_87 s42_92 s42_94 s42_101 s42_102 s42_103 hM42_b6 hM42_b7 hBs23 hR23 hR41 hE
            have hkd := hM42_b7.keys
            refine W.seq ?_
            refine W.region (by rfl) ?_
            refine L.val rfl (op_lss rfl s42_103 s42_102) ?_
            refine L.nil ?_
            refine thenF_nor ?_
            refine W.seq ?_
            refine W.cond (t := decide (((k : Nat) : Int) < ((dn.map Prod.fst).length : Int))) rfl (fun hc43 => ?_) (fun hc43 => ?_)
            · have hp43 := hc43
              simp only [Bool.and_eq_true, Bool.or_eq_true, Bool.and_eq_false_iff, Bool.or_eq_false_iff, Bool.not_eq_true', Bool.not_eq_false', decide_eq_true_eq, decide_eq_false_iff_not] at hp43
              have hvk := hnx k (Nat.le_refl _) (by omega)
              have hvb := cl_bound (hcl2.reach _ (Or.inl hvk))
              obtain ⟨hvb0, hvb1⟩ := hvb
              refine W.skip ?_
              refine thenF_nor ?_
              refine W.seq ?_
              refine W.block ?_
              refine W.seq ?_
              refine W.region (by rfl) ?_
              refine L.val rfl (op_index (k := k) rfl s42_101 s42_103 sl25 (hR41.getA (get_bang (l := (dn.map Prod.fst)) (k := k) (by omega))).1 rfl (by omega) rfl) ?_
              refine L.val rfl (op_load (v := (dn.map Prod.fst)[k]!) rfl rfl ty28 (hR41.getA (get_bang (l := (dn.map Prod.fst)) (k := k) (by omega))).2) ?_
              refine L.newvar (v := (Enc.val ((dn.map Prod.fst)[k]!))) (cs := (Enc.cells (dn.map Prod.fst)[k]!)) rfl rfl rfl rfl rfl rfl (fun _ => rfl) rfl si28 zs28 (Enc.one _) ?_
              intro b44 w44 hb44 hB44 hx44
              have hbb44_hE := Nat.le_trans hE.size hb44
              have hE := hE.trans hx44
              have hBs23 := hBs23.ext hx44
              have hR23 := hR23.ext hx44
              have hR41 := hR41.ext hx44
              have hM42_b6 := hM42_b6.ext hx44
              have hM42_b7 := hM42_b7.ext hx44
              refine L.nil ?_
              refine thenF_nor ?_
              refine W.seq ?_
              have hnc45 := hM42_b6.nc
              refine W.drawM (ld := 3) (es := 5) (vld := (.map (some b6))) (b := b6) (l := (lw2 : List (Vt × Int))) (l' := (mdel lw2 ((dn.map Prod.fst)[k]! : Vt))) [(.pointer (some ⟨b8, 0, none⟩)), (.pointer (some ⟨b8, 0, none⟩)), (.pointer (some ⟨b8, 2, none⟩)), undef, (Enc.val ((dn.map Prod.fst)[k]!)), undef] mixed (by rfl) hM42_b6 ?_ rfl rfl rfl rfl rfl ?_ ?_ ?_
              · refine VObls.cons ?_ (VObls.cons ?_ (VObls.cons ?_ (VObls.cons (fun h => nomatch h) (VObls.cons ?_ (VObls.cons (fun h => nomatch h) (VObls.nil))))))
                · intro _ f46 w46 hg46 ho46 hd46
                  have d46_s10 : f46 10 = (.pointer (some ⟨b8, 0, none⟩)) := (ho46 10 rfl).trans s42_10
                  exact ⟨rfl, (op_move rfl d46_s10), rfl⟩
                · intro _ f47 w47 hg47 ho47 hd47
                  have d47_0 : f47 107 = (.pointer (some ⟨b8, 0, none⟩)) := hd47 0 rfl rfl
                  exact ⟨rfl, (op_nilCheck rfl d47_0), rfl⟩
                · intro _ f48 w48 hg48 ho48 hd48
                  have d48_1 : f48 108 = (.pointer (some ⟨b8, 0, none⟩)) := hd48 1 rfl rfl
                  exact ⟨rfl, (op_field rfl d48_1 fo89_2 rfl), rfl⟩
                · intro _ f50 w50 hg50 ho50 hd50
                  have d50_s21 : f50 21 = (.pointer (some ⟨b44, 0, none⟩)) := ho50 21 rfl
                  have hBs23 := hBs23.farM hnc45 hg50
                  have hR23 := hR23.farM hnc45 hg50
                  have hR41 := hR41.farM hnc45 hg50
                  have hB44 := hB44.farM hnc45 hg50
                  exact ⟨rfl, (op_load (v := (dn.map Prod.fst)[k]!) rfl d50_s21 ty28 hB44.cells), rfl⟩
              · intro f49 w49 hg49 ho49 hd49
                have d49_2 : f49 109 = (.pointer (some ⟨b8, 2, none⟩)) := hd49 2 rfl rfl
                have hBs23 := hBs23.farM hnc45 hg49
                have hR23 := hR23.farM hnc45 hg49
                have hR41 := hR41.farM hnc45 hg49
                have hB44 := hB44.farM hnc45 hg49
                exact (op_load1 rfl d49_2 one87 (hBs23.cells.one (n := 2) rfl))
              · intro f51 w51 hg51 ho51 hd51 hv51 hMv51
                have d51_4 : f51 111 = (Enc.val ((dn.map Prod.fst)[k]!)) := hd51 4 rfl rfl
                exact OpS.mono (op_delete (a := ((dn.map Prod.fst)[k]! : Vt)) mp87 rfl hv51 d51_4 hMv51) fun _ _ h => ⟨h.2.1, h.2.2.1⟩
              intro f52 w52 hg52 ho52 hr52 hM52
              have s8 : f52 8 = (.slice none 0 0) := (ho52 8 rfl).trans s42_8
              have s9 : f52 9 = (.bool false) := (ho52 9 rfl).trans s42_9
              have s10 : f52 10 = (.pointer (some ⟨b8, 0, none⟩)) := (ho52 10 rfl).trans s42_10
              have s18 : f52 18 = v39_18 := (ho52 18 rfl).trans s42_18
              have s21 : f52 21 = (.pointer (some ⟨b44, 0, none⟩)) := ho52 21 rfl
              have s87 : f52 87 = (.bool (decide (0 < (lw.length : Int)))) := (ho52 87 rfl).trans s42_87
              have s92 : f52 92 = (.pointer (some ⟨b38, 0, none⟩)) := (ho52 92 rfl).trans s42_92
              have s94 : f52 94 = (.bool false) := (ho52 94 rfl).trans s42_94
              have s101 : f52 101 = (.slice A41 (dn.map Prod.fst).length c41) := (ho52 101 rfl).trans s42_101
              have s102 : f52 102 = (.int .i64 ((dn.map Prod.fst).length : Int)) := (ho52 102 rfl).trans s42_102
              have s103 : f52 103 = (.int .i64 ((k : Nat) : Int)) := (ho52 103 rfl).trans s42_103
              have s104 : f52 104 = (.bool (decide (((k : Nat) : Int) < ((dn.map Prod.fst).length : Int)))) := ho52 104 rfl
              have hnc52 := hM42_b6.nc
              have hE := hE.grown hg52 (by intro k hk; cases hk; exact hbb6_hE)
              have hBs23 := hBs23.farM hnc52 hg52
              have hR23 := hR23.farM hnc52 hg52
              have hR41 := hR41.farM hnc52 hg52
              have hM42_b7 := hM42_b7.farM hne_b7_b6 hg52
              have hB44 := hB44.farM hnc52 hg52
              refine thenF_nor ?_
              refine W.seq ?_
              have hnc53 := hM42_b7.nc
              refine W.drawM (ld := 3) (es := 5) (vld := (.map (some b7))) (b := b7) (l := (ld2 : List (Vt × Int))) (l' := (mput ld2 ((dn.map Prod.fst)[k]! : Vt) 1)) [(.pointer (some ⟨b8, 0, none⟩)), (.pointer (some ⟨b8, 0, none⟩)), (.pointer (some ⟨b8, 3, none⟩)), undef, (Enc.val ((dn.map Prod.fst)[k]!)), undef] mixed (by rfl) hM42_b7 ?_ rfl rfl rfl rfl rfl ?_ ?_ ?_
              · refine VObls.cons ?_ (VObls.cons ?_ (VObls.cons ?_ (VObls.cons (fun h => nomatch h) (VObls.cons ?_ (VObls.cons (fun h => nomatch h) (VObls.nil))))))
                · intro _ f54 w54 hg54 ho54 hd54
                  have d54_s10 : f54 10 = (.pointer (some ⟨b8, 0, none⟩)) := (ho54 10 rfl).trans s10
                  exact ⟨rfl, (op_move rfl d54_s10), rfl⟩
                · intro _ f55 w55 hg55 ho55 hd55
                  have d55_0 : f55 112 = (.pointer (some ⟨b8, 0, none⟩)) := hd55 0 rfl rfl
                  exact ⟨rfl, (op_nilCheck rfl d55_0), rfl⟩
                · intro _ f56 w56 hg56 ho56 hd56
                  have d56_1 : f56 113 = (.pointer (some ⟨b8, 0, none⟩)) := hd56 1 rfl rfl
                  exact ⟨rfl, (op_field rfl d56_1 fo89_3 rfl), rfl⟩
                · intro _ f58 w58 hg58 ho58 hd58
                  have d58_s21 : f58 21 = (.pointer (some ⟨b44, 0, none⟩)) := (ho58 21 rfl).trans s21
                  have hBs23 := hBs23.farM hnc53 hg58
                  have hR23 := hR23.farM hnc53 hg58
                  have hR41 := hR41.farM hnc53 hg58
                  have hB44 := hB44.farM hnc53 hg58
                  exact ⟨rfl, (op_load (v := (dn.map Prod.fst)[k]!) rfl d58_s21 ty28 hB44.cells), rfl⟩
              · intro f57 w57 hg57 ho57 hd57
                have d57_2 : f57 114 = (.pointer (some ⟨b8, 3, none⟩)) := hd57 2 rfl rfl
                have hBs23 := hBs23.farM hnc53 hg57
                have hR23 := hR23.farM hnc53 hg57
                have hR41 := hR41.farM hnc53 hg57
                have hB44 := hB44.farM hnc53 hg57
                exact (op_load1 rfl d57_2 one87 (hBs23.cells.one (n := 3) rfl))
              · intro f59 w59 hg59 ho59 hd59 hv59 hMv59
                have d59_4 : f59 116 = (Enc.val ((dn.map Prod.fst)[k]!)) := hd59 4 rfl rfl
                exact OpS.mono (op_mapUpdate (a := ((dn.map Prod.fst)[k]! : Vt)) (v := 1) mp87 rfl hv59 d59_4 rfl hMv59) fun _ _ h => ⟨h.1, h.2.1⟩
              intro f60 w60 hg60 ho60 hr60 hM60
              have s8 : f60 8 = (.slice none 0 0) := (ho60 8 rfl).trans s8
              have s9 : f60 9 = (.bool false) := (ho60 9 rfl).trans s9
              have s10 : f60 10 = (.pointer (some ⟨b8, 0, none⟩)) := (ho60 10 rfl).trans s10
              have s18 : f60 18 = v39_18 := (ho60 18 rfl).trans s18
              have s21 : f60 21 = (.pointer (some ⟨b44, 0, none⟩)) := (ho60 21 rfl).trans s21
              have s87 : f60 87 = (.bool (decide (0 < (lw.length : Int)))) := (ho60 87 rfl).trans s87
              have s92 : f60 92 = (.pointer (some ⟨b38, 0, none⟩)) := (ho60 92 rfl).trans s92
              have s94 : f60 94 = (.bool false) := (ho60 94 rfl).trans s94
              have s101 : f60 101 = (.slice A41 (dn.map Prod.fst).length c41) := (ho60 101 rfl).trans s101
              have s102 : f60 102 = (.int .i64 ((dn.map Prod.fst).length : Int)) := (ho60 102 rfl).trans s102
              have s103 : f60 103 = (.int .i64 ((k : Nat) : Int)) := (ho60 103 rfl).trans s103
              have s104 : f60 104 = (.bool (decide (((k : Nat) : Int) < ((dn.map Prod.fst).length : Int)))) := (ho60 104 rfl).trans s104
              have hnc60 := hM42_b7.nc
              have hE := hE.grown hg60 (by intro k hk; cases hk; exact hbb7_hE)
              have hBs23 := hBs23.farM hnc60 hg60
              have hR23 := hR23.farM hnc60 hg60
              have hR41 := hR41.farM hnc60 hg60
              have hB44 := hB44.farM hnc60 hg60
              have hM52 := hM52.farM hne_b6_b7 hg60
              refine thenF_nor ?_
              refine W.region (by rfl) ?_
              refine L.val rfl (op_move rfl s10) ?_
              refine L.val rfl (op_load (v := (dn.map Prod.fst)[k]!) rfl s21 ty28 hB44.cells) ?_
              refine L.step rfl (OpS.call (op_call rfl (argsC rfl (argsC rfl argsN)) Try.func72 rfl rfl) (expand_ok hBs23.cells hR23 hM52 hM60 hne_b7_b6 (by first | omega | (simp only [List.length_drop, List.length_take, List.length_append, List.length_cons, List.length_nil] at *; omega)) (by first | omega | (simp only [List.length_drop, List.length_take, List.length_append, List.length_cons, List.length_nil] at *; omega)) (by first | omega | (simp only [List.length_drop, List.length_take, List.length_append, List.length_cons, List.length_nil] at *; omega)))) ?_
              rintro _ w61 ⟨hM61, hg61⟩
              have hnc61 := hM52.nc
              have hE := hE.grown hg61 (by intro k hk; cases hk; exact hbb6_hE)
              have hBs23 := hBs23.farM hnc61 hg61
              have hR23 := hR23.farM hnc61 hg61
              have hR41 := hR41.farM hnc61 hg61
              have hB44 := hB44.farM hnc61 hg61
              have hM60 := hM60.farM hne_b7_b6 hg61
              refine L.nil ?_
              refine blockF_nor ?_
              refine thenF_nor ?_
              refine W.region (by rfl) ?_
              refine L.val rfl (op_add (c := ((k + 1 : Nat) : Int)) rfl s103 rfl (by omega) (by omega)) ?_
              refine L.val rfl (op_move rfl rfl) ?_
              refine L.nil ?_
              refine thenF_nor ?_
              exact ⟨(k + 1, wants (mput ld2 ((dn.map Prod.fst)[k]! : Vt) 1) (mdel lw2 ((dn.map Prod.fst)[k]! : Vt)) (expand_n m (inSlot m parent l o.slot) ((dn.map Prod.fst)[k]!)), (mput ld2 ((dn.map Prod.fst)[k]! : Vt) 1)), ⟨(by (try dsimp only); omega), (cl_step hcl2 hkd hvk), (by dsimp only; rw [cl_put_len hcl2 hvk]; omega), (fun j hj1 hj2 => cl_next _ (hnx j (by omega) hj2) (at_ne hnd hj2 (by omega) (by omega))), s8, s9, s10, s18, s87, s92, s94, s101, s102, rfl, hM61, hM60, hBs23, hR23, hR41, hE⟩, (by (try dsimp only); omega)⟩
            · have hp43 := hc43
              simp only [Bool.and_eq_true, Bool.or_eq_true, Bool.and_eq_false_iff, Bool.or_eq_false_iff, Bool.not_eq_true', Bool.not_eq_false', decide_eq_true_eq, decide_eq_false_iff_not] at hp43
              refine W.exit ?_
              refine thenF_exit ?_
              refine thenF_exit ?_
              refine blockF_hit ?_
              refine blockF_nor ?_
              refine thenF_nor ?_
              exact ⟨(lw2, ld2), ⟨hcl2, s42_8, s42_9, s42_10, hM42_b6, hM42_b7, hBs23, hR23, hE⟩, (by have h1 := cl_len_d hcl2 (fun z hz => seeds_sub hz) hM42_b7.keys; have h2 : 0 < lw.length := (by have h3 := hlw; simp only [decide_eq_true_eq] at h3; omega); have h4 := hpm.length_eq; (try dsimp only); omega)⟩
          · have hnc40 := hG39_92.nc
            have hE := hE.grown hg40 (by intro k hk; cases hk; exact hbb38_hE)
            have hS37 := hS37.grown hg40 (by intro k hk; cases hk; exact hbb38_hS37)
            have hBs23 := hBs23.farM hnc40 hg40
            have hR23 := hR23.farM hnc40 hg40
            have hM35_b6 := hM35_b6.farG hG39_92 hg40
            have hM35_b7 := hM35_b7.farG hG39_92 hg40
            have hO39_18 := hO39_18.farM hnc40 hg40
            refine L.val (v := (.bool true)) rfl (op_extract rfl rfl rfl) ?_
            refine L.nil ?_
            refine thenF_nor ?_
            refine W.seq ?_
            refine W.cond (t := true) rfl (fun _ => ?_) (fun h => nomatch h)
            refine W.skip ?_
            refine thenF_nor ?_
            refine W.block ?_
            refine W.seq ?_
            refine W.region (by rfl) ?_
            refine L.val rfl (op_entry rfl s39_92 hG40) ?_
            refine L.val rfl (op_extract rfl rfl rfl) ?_
            refine L.newvar (v := (Enc.val (p40.1 : Vt))) (cs := (Enc.cells (p40.1 : Vt))) rfl rfl rfl rfl rfl rfl (fun _ => rfl) rfl si28 zs28 (Enc.one _) ?_
            intro b62 w62 hb62 hB62 hx62
            have hbb62_hE := Nat.le_trans hE.size hb62
            have hbb62_hS37 := Nat.le_trans hS37.size hb62
            have hE := hE.trans hx62
            have hS37 := hS37.trans hx62
            have hBs23 := hBs23.ext hx62
            have hR23 := hR23.ext hx62
            have hM35_b6 := hM35_b6.ext hx62
            have hM35_b7 := hM35_b7.ext hx62
            have hO39_18 := hO39_18.ext hx62
            have hG40 := hG40.ext hx62
            refine L.nil ?_
            refine thenF_nor ?_
            refine W.region (by rfl) ?_
            refine L.val rfl (op_move rfl s39_18) ?_
            refine L.val rfl (op_load (v := (p40.1 : Vt)) rfl rfl ty28 hB62.cells) ?_
            refine L.step rfl (op_slice1 (a := (p40.1 : Vt)) rfl rfl sl25 zs28 (by decide)) ?_
            rintro _ w63 ⟨b63, rfl, hb63, hB63, hx63⟩
            have hE := hE.trans hx63
            have hS37 := hS37.trans hx63
            have hBs23 := hBs23.ext hx63
            have hR23 := hR23.ext hx63
            have hM35_b6 := hM35_b6.ext hx63
            have hM35_b7 := hM35_b7.ext hx63
            have hO39_18 := hO39_18.ext hx63
            have hG40 := hG40.ext hx63
            have hB62 := hB62.ext hx63
            refine L.step rfl (op_append (a := (p40.1 : Vt)) (ad := ⟨b63, 0, none⟩) rfl rfl rfl sl25 zs28 bt28 hO39_18 hB63.cells (by omega) (by decide) hS37.size) ?_
            rintro v64 w64 ⟨hO64, hg64⟩
            have hS37 := hS37.own hO39_18 hg64
            have hG40 := hG40.farO hO39_18 hg64
            have hBs23 := S37_hBs23.ext hS37
            have hR23 := S37_hR23.ext hS37
            have hM35_b6 := S37_hM35_b6.ext hS37
            have hM35_b7 := S37_hM35_b7.ext hS37
            have hE := S37_hE.trans hS37
            refine L.val rfl (op_assign rfl rfl) ?_
            refine L.nil ?_
            refine blockF_nor ?_
            refine thenF_nor ?_
            exact ⟨(dn ++ [p40]), ⟨s39_8, s39_9, s39_10, s39_87, (own_at (v := v64) rfl (by rw [List.map_append]; exact hO64)), s39_92, hG40, hS37⟩, (by have hgl := hG40.len; simp only [List.length_append, List.length_cons, List.length_nil] at hgl ⊢; omega)⟩
        · have hp36 := hc36
          simp only [Bool.and_eq_true, Bool.or_eq_true, Bool.and_eq_false_iff, Bool.or_eq_false_iff, Bool.not_eq_true', Bool.not_eq_false', decide_eq_true_eq, decide_eq_false_iff_not] at hp36
          have hlw0 : lw = [] := List.eq_nil_of_length_eq_zero (by have h0 := hc36; simp only [decide_eq_false_iff_not] at h0; omega)
          subst hlw0
          have hkd3 := hM35_b7.keys
          refine W.exit ?_
          refine thenF_exit ?_
          refine thenF_exit ?_
          refine blockF_hit ?_
          refine thenF_nor ?_
          refine W.seq ?_
          have S65_hBs23 := hBs23
          have S65_hR23 := hR23
          have S65_hM35_b6 := hM35_b6
          have S65_hM35_b7 := hM35_b7
          have S65_hE := hE
          have hS65 : Ext w35 w35 := Ext.refl _
          refine W.region (by rfl) ?_
          refine L.step rfl (op_alloc (z := (.slice none 0 0)) (cs := [(.slice none 0 0)]) rfl (by kernel_rfl) rfl) ?_
          rintro _ w66 ⟨b66, rfl, hb66, hB66, hx66⟩
          have hbb66_hE := Nat.le_trans hE.size hb66
          have hbb66_hS65 := Nat.le_trans hS65.size hb66
          have hE := hE.trans hx66
          have hS65 := hS65.trans hx66
          have hBs23 := hBs23.ext hx66
          have hR23 := hR23.ext hx66
          have hM35_b6 := hM35_b6.ext hx66
          have hM35_b7 := hM35_b7.ext hx66
          refine L.nil ?_
          refine thenF_nor ?_
          refine W.seq ?_
          refine W.seq ?_
          refine W.region (by rfl) ?_
          refine L.val rfl (op_move rfl s35_10) ?_
          refine L.val rfl (op_nilCheck rfl rfl) ?_
          refine L.val rfl (op_field rfl rfl fo89_3 rfl) ?_
          refine L.val rfl (op_load1 rfl rfl one87 (hBs23.cells.one (n := 3) rfl)) ?_
          refine L.step rfl (op_range rfl Try.underlying87 rfl hM35_b7) ?_
          rintro _ w67 ⟨b67, rfl, hb67, hG67, hx67⟩
          have hbb67_hE := Nat.le_trans hE.size hb67
          have hbb67_hS65 := Nat.le_trans hS65.size hb67
          have hE := hE.trans hx67
          have hS65 := hS65.trans hx67
          have hBs23 := hBs23.ext hx67
          have hR23 := hR23.ext hx67
          have hM35_b6 := hM35_b6.ext hx67
          have hM35_b7 := hM35_b7.ext hx67
          have hB66 := hB66.ext hx67
          refine L.nil ?_
          refine thenF_nor ?_
          refine W.block ?_
          refine W.loopg (γ := List (Vt × Int)) (fun (dn2 : List (Vt × Int)) (f : Fr) (ww : World) => f 8 = (.slice none 0 0) ∧ f 9 = (.bool false) ∧ f 22 = (.pointer (some ⟨b66, 0, none⟩)) ∧ (∃ vv, Box ww b66 25 [vv] ∧ Fk.Own ww (b66 + 1) 28 vv (dn2.map Prod.fst)) ∧ f 125 = (.pointer (some ⟨b67, 0, none⟩)) ∧ Rg ww b7 b67 ld dn2 ∧ Ext w35 ww) (fun (dn2 : List (Vt × Int)) => ld.length - dn2.length) ([] : List (Vt × Int)) ⟨s35_8, s35_9, rfl, ⟨_, hB66, Fk.Own.nil _ _ _⟩, rfl, hG67, hS65⟩ ?_
          rintro dn2 f68 w68 ⟨s68_8, s68_9, s68_22, hM68_22, s68_125, hG68_125, hS65⟩
          have hBs23 := S65_hBs23.ext hS65
          have hR23 := S65_hR23.ext hS65
          have hM35_b6 := S65_hM35_b6.ext hS65
          have hM35_b7 := S65_hM35_b7.ext hS65
          have hE := S65_hE.trans hS65
          obtain ⟨v68_22, hB68_22, hO68_22⟩ := hM68_22
          have hml2 : (dn2.map Prod.fst).length = dn2.length := List.length_map _
          have hgl2 := hG68_125.len
          refine W.seq ?_
          refine W.region (by rfl) ?_
          refine L.step rfl (op_nextE rfl s68_125 hG68_125) ?_
          rintro _ w69 (⟨rfl, hpm69, hx69⟩ | ⟨p69, hpl69, hpn69, rfl, hG69, hg69, hsz69⟩)
          · have hE := hE.trans hx69
            have hS65 := hS65.trans hx69
            have hBs23 := hBs23.ext hx69
            have hR23 := hR23.ext hx69
            have hM35_b6 := hM35_b6.ext hx69
            have hM35_b7 := hM35_b7.ext hx69
            have hG68_125 := hG68_125.ext hx69
            have hB68_22 := hB68_22.ext hx69
            have hO68_22 := hO68_22.ext hx69
            refine L.val (v := (.bool false)) rfl (op_extract rfl rfl rfl) ?_
            refine L.nil ?_
            refine thenF_nor ?_
            refine W.seq ?_
            refine W.cond (t := false) rfl (fun h => nomatch h) (fun _ => ?_)
            refine W.exit ?_
            refine thenF_exit ?_
            refine thenF_exit ?_
            refine blockF_hit ?_
            refine thenF_nor ?_
            refine W.seq ?_
            obtain ⟨A70, c70, hv70, hR70, hcap70⟩ := (hO68_22).form
            have hlen70 := hR70.len
            have hBs70 := hB68_22
            rw [hv70] at hBs70
            refine W.region (by rfl) ?_
            refine L.val rfl (op_load1 rfl s68_22 one25 (hBs70.cells.one (n := 0) rfl)) ?_
            refine L.val rfl (op_iface rfl rfl (by kernel_rfl)) ?_
            refine L.val rfl (op_func rfl (argsC s68_22 argsN)) ?_
            have hOs70 := hO68_22
            rw [hv70] at hOs70
            refine L.step rfl (OpS.call (op_call rfl (argsC rfl (argsC rfl argsN)) Try.func60 rfl rfl) (sortSlice_ok st25 vote_lin.swo hOs70 (by omega) (fun blk eA => by subst eA; exact lessOk_box Try.func73 rfl rfl clo2_ok hBs70 (by have hh := hOs70.lt blk rfl; omega) hlen70))) ?_
            rintro _ w71 ⟨rfl, ls71, hpm71, hsl71, hso71, hR71, hg71⟩
            have hBz71 := hBs70.far hg71 (hOs70.ne' (Nat.lt_succ_self _))
            have hS65 := hS65.own (hOs70.lower (by omega)) hg71
            rw [← hsl71] at hBz71
            have hlen71 := hR71.len
            have hBs23 := S65_hBs23.ext hS65
            have hR23 := S65_hR23.ext hS65
            have hM35_b6 := S65_hM35_b6.ext hS65
            have hM35_b7 := S65_hM35_b7.ext hS65
            have hE := S65_hE.trans hS65
            refine L.nil ?_
            refine thenF_nor ?_
            refine W.seq ?_
            refine W.region (by rfl) ?_
            refine L.val rfl (op_load1 rfl s68_22 one25 (hBz71.cells.one (n := 0) rfl)) ?_
            refine L.val rfl (op_assign rfl rfl) ?_
            refine L.val (v := (.bool true)) rfl (op_assign rfl rfl) ?_
            refine L.nil ?_
            refine thenF_nor ?_
            refine W.ret ?_
            exact end_ret2 (v := (.slice A70 ls71.length c70)) (v' := (.bool true)) rfl rfl rfl ⟨⟨_, (by rw [hdec]), (by have hdd := cl_end hcl (fun z hz => seeds_sub hz) hkd3 (slot_asc m parent l o.slot) hpm69 hpm71 hso71; unfold closure_f; rw [hdec, cond_true, ← hdd]; exact (⟨_, _, _, _, rfl, (Nat.le_trans (Nat.le_of_eq hsl71) hcap70), hR71⟩ : SlR _ _ _))⟩, hE⟩
          · have hnc69 := hG68_125.nc
            have hE := hE.grown hg69 (by intro k hk; cases hk; exact hbb67_hE)
            have hS65 := hS65.grown hg69 (by intro k hk; cases hk; exact hbb67_hS65)
            have hBs23 := hBs23.farM hnc69 hg69
            have hR23 := hR23.farM hnc69 hg69
            have hM35_b6 := hM35_b6.farG hG68_125 hg69
            have hM35_b7 := hM35_b7.farG hG68_125 hg69
            have hB68_22 := hB68_22.farM hnc69 hg69
            have hO68_22 := hO68_22.farM hnc69 hg69
            refine L.val (v := (.bool true)) rfl (op_extract rfl rfl rfl) ?_
            refine L.nil ?_
            refine thenF_nor ?_
            refine W.seq ?_
            refine W.cond (t := true) rfl (fun _ => ?_) (fun h => nomatch h)
            refine W.skip ?_
            refine thenF_nor ?_
            refine W.block ?_
            refine W.seq ?_
            refine W.region (by rfl) ?_
            refine L.val rfl (op_entry rfl s68_125 hG69) ?_
            refine L.val rfl (op_extract rfl rfl rfl) ?_
            refine L.newvar (v := (Enc.val (p69.1 : Vt))) (cs := (Enc.cells (p69.1 : Vt))) rfl rfl rfl rfl rfl rfl (fun _ => rfl) rfl si28 zs28 (Enc.one _) ?_
            intro b72 w72 hb72 hB72 hx72
            have hbb72_hE := Nat.le_trans hE.size hb72
            have hbb72_hS65 := Nat.le_trans hS65.size hb72
            have hE := hE.trans hx72
            have hS65 := hS65.trans hx72
            have hBs23 := hBs23.ext hx72
            have hR23 := hR23.ext hx72
            have hM35_b6 := hM35_b6.ext hx72
            have hM35_b7 := hM35_b7.ext hx72
            have hB68_22 := hB68_22.ext hx72
            have hO68_22 := hO68_22.ext hx72
            have hG69 := hG69.ext hx72
            refine L.nil ?_
            refine thenF_nor ?_
            refine W.region (by rfl) ?_
            refine L.val rfl (op_load1 rfl s68_22 one25 (hB68_22.cells.one (n := 0) rfl)) ?_
            refine L.val rfl (op_load (v := (p69.1 : Vt)) rfl rfl ty28 hB72.cells) ?_
            refine L.step rfl (op_slice1 (a := (p69.1 : Vt)) rfl rfl sl25 zs28 (by decide)) ?_
            rintro _ w73 ⟨b73, rfl, hb73, hB73, hx73⟩
            have hE := hE.trans hx73
            have hS65 := hS65.trans hx73
            have hBs23 := hBs23.ext hx73
            have hR23 := hR23.ext hx73
            have hM35_b6 := hM35_b6.ext hx73
            have hM35_b7 := hM35_b7.ext hx73
            have hB68_22 := hB68_22.ext hx73
            have hO68_22 := hO68_22.ext hx73
            have hG69 := hG69.ext hx73
            have hB72 := hB72.ext hx73
            refine L.step rfl (op_append (a := (p69.1 : Vt)) (ad := ⟨b73, 0, none⟩) rfl rfl rfl sl25 zs28 bt28 hO68_22 hB73.cells (by omega) (by decide) (Nat.succ_le_of_lt hB68_22.lt)) ?_
            rintro v74 w74 ⟨hO74, hg74⟩
            have hS65 := hS65.own (hO68_22.lower (by omega)) hg74
            have hG69 := hG69.farO hO68_22 hg74
            have hB68_22 := hB68_22.far hg74 (hO68_22.ne' (Nat.lt_succ_self _))
            have hBs23 := S65_hBs23.ext hS65
            have hR23 := S65_hR23.ext hS65
            have hM35_b6 := S65_hM35_b6.ext hS65
            have hM35_b7 := S65_hM35_b7.ext hS65
            have hE := S65_hE.trans hS65
            refine L.step rfl (op_put (v := v74) rfl s68_22 rfl si25 hB68_22 (Nat.le_of_ble_eq_true rfl) hO74.cells hO74.onec) ?_
            rintro _ w75 ⟨hB75, hg75⟩
            have hO74 := (hO74).kept hg75 (hO74.ne (Nat.lt_succ_self _))
            have hS65 := hS65.grown hg75 (by intro k hk; cases hk; omega)
            have hG69 := hG69.farB hB68_22 hg75
            have hBs23 := S65_hBs23.ext hS65
            have hR23 := S65_hR23.ext hS65
            have hM35_b6 := S65_hM35_b6.ext hS65
            have hM35_b7 := S65_hM35_b7.ext hS65
            have hE := S65_hE.trans hS65
            have hB68_22 := hB75
            refine L.nil ?_
            refine blockF_nor ?_
            refine thenF_nor ?_
            exact ⟨(dn2 ++ [p69]), ⟨s68_8, s68_9, s68_22, (by rw [List.map_append]; exact ⟨_, hB68_22, hO74⟩), s68_125, hG69, hS65⟩, (by have hgl := hG69.len; simp only [List.length_append, List.length_cons, List.length_nil] at hgl ⊢; omega)⟩

set_option maxRecDepth 100000 in
theorem Check_ok {m : Int} {parent : Nm} {A_l : Option Addr} {c_l lo_l hi_l : Nat} {l : List Vt} {o : Oc}  {w : World} (hR_l : Rd w lo_l hi_l A_l l) (hl : l.length ≤ 1000000) : Gives Try.prog 48 #[(.int .i64 m), (Enc.val (parent : Nm)), (.slice A_l l.length c_l), (Enc.val (o : Oc))] w fun u w' => u = (.bool (decided_f m parent l o)) ∧ Ext w w' := by
  have hE : Ext w w := Ext.refl w
  have hlen_l := hR_l.len
  refine gives_of_W Try.func48 rfl Try.ntmps48 rfl ?_
  refine W.seq ?_
  refine W.region (by rfl) ?_
  refine L.step rfl (op_box (cs := (Enc.cells (parent : Nm))) rfl rfl rfl) ?_
  rintro _ w1 ⟨b1, rfl, hb1, hB1, hx1⟩
  have hE := hE.trans hx1
  have hR_l := hR_l.ext hx1
  refine L.step rfl (op_box (cs := (Enc.cells (o : Oc))) rfl rfl rfl) ?_
  rintro _ w2 ⟨b2, rfl, hb2, hB2, hx2⟩
  have hE := hE.trans hx2
  have hR_l := hR_l.ext hx2
  have hB1 := hB1.ext hx2
  refine L.val (v := (.bool false)) rfl (op_assign rfl rfl) ?_
  refine L.nil ?_
  refine thenF_nor ?_
  refine W.seq ?_
  refine W.region (by rfl) ?_
  refine L.val rfl (op_move rfl rfl) ?_
  refine L.val rfl (op_load (v := (parent : Nm)) rfl rfl ty24 hB1.cells) ?_
  refine L.val rfl (op_move rfl rfl) ?_
  refine L.val rfl (op_load (v := (o : Oc)) rfl rfl ty49 hB2.cells) ?_
  refine L.call (v := (.bool (decided_f m parent l o))) rfl (OpS.call (op_call rfl (argsC rfl (argsC rfl (argsC rfl (argsC rfl argsN)))) Try.func35 rfl rfl) (Decided_ok hR_l (by first | omega | (simp only [List.length_drop, List.length_take, List.length_append, List.length_cons, List.length_nil] at *; omega)))) ?_
  intro w3 hx3
  have hE := hE.trans hx3
  have hR_l := hR_l.ext hx3
  have hB1 := hB1.ext hx3
  have hB2 := hB2.ext hx3
  refine L.val rfl (op_assign rfl rfl) ?_
  refine L.nil ?_
  refine thenF_nor ?_
  refine W.ret ?_
  exact end_ret1 (v := (.bool (decided_f m parent l o))) rfl rfl ⟨rfl, hE⟩

end Go.Proofs.Ytdknjfmjddlphaa
